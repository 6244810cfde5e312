/- Quiet operations, the rest: cuts, conversions, literals of structs; and all of them in one. All quiet operations in one; what the others ask; a list of operations, walked. Operations that make or write memory, calls. A region walked in the order of the text, guards and all; a function entered, its results. Calls by contract; things that are let go of, or read only from then on, or lent. Lists of Lean data as slices; small rules for the walks. A region that leaves its order open, all of whose operations only read, reckon, or call what changes nothing: whatever the order, it comes to what the. No conditions. -/
import Derived.Test.YtoclmdkhgfghbaaGreatDoorGdE
import Derived.Deep.RegionWith
import Derived.Laws.Append
import Derived.Orders
set_option linter.all false
namespace Go.Gd
open Go
section
variable {P:Program} {w:NW} {H:Hp}
theorem jah {a:Option AV} {v:Option Value} {i:Option Int} (ha:jbA a=some i) (hr:∀ x y,a=some x→v=some y→RelV w x y) (hs:a.isSome=v.isSome):(i=none∧v=none)∨∃ k n,i=some n∧v=some (.int k n):=by
 cases a with
 | none=>
  simp [jbA] at ha
  cases v with
  | none=>exact .inl ⟨ha.symm,rfl⟩
  | some _=>simp at hs
 | some x=>
  cases v with
  | none=>simp at hs
  | some y=>
   unfold jbA at ha
   split at ha<;>try cases ha
   ·rename_i h;cases h
   ·rename_i k n h
    cases h
    have:=jab (hr _ _ rfl rfl)
    subst this
    exact .inr ⟨k,n,rfl,rfl⟩
theorem jaJ {isSlice:Bool} {len cap:Nat} {vlo vhi:Option Value} {lo hi:Option Int} (hlo:(lo=none∧vlo=none)∨∃ k n,lo=some n∧vlo=some (.int k n)) (hhi:(hi=none∧vhi=none)∨∃ k n,hi=some n∧vhi=some (.int k n))
  (h0:0≤lo.getD 0) (h1:lo.getD 0≤hi.getD len) (h2:hi.getD len≤cap):(Instr.sliceBounds isSlice len cap vlo vhi none).run P w=.ok ((lo.getD 0).toNat,(hi.getD len).toNat,cap) w:=by
 rcases hlo with ⟨rfl,rfl⟩ | ⟨k,n,rfl,rfl⟩<;>rcases hhi with ⟨rfl,rfl⟩ | ⟨k',m,rfl,rfl⟩<;>simp only [Option.getD_some,Option.getD_none] at *
 ·simp [Instr.sliceBounds]
 ·simp [Instr.sliceBounds,run_sliceBound w _ _ _ _ (show 0≤m by omega) h2]
 ·simp [Instr.sliceBounds,run_sliceBound w _ _ _ _ h0 h1]
 ·simp [Instr.sliceBounds,run_sliceBound w _ _ _ _ (show 0≤m by omega) h2,run_sliceBound w _ _ _ _ h0 (show n≤((m.toNat:Nat):Int) by omega)]
theorem jcZ {len cap:Nat} {vlo:Option Value} {lo:Option Int} {k k2:IntKind} {m q:Int} (hlo:(lo=none∧vlo=none)∨∃ k n,lo=some n∧vlo=some (.int k n))
  (h0:0≤lo.getD 0) (h1:lo.getD 0≤q) (h2:q≤m) (h3:m≤cap):(Instr.sliceBounds true len cap vlo (some (.int k2 q)) (some (.int k m))).run P w.toWorld=.ok ((lo.getD 0).toNat,q.toNat,m.toNat) w.toWorld:=by
 rcases hlo with ⟨rfl,rfl⟩ | ⟨k1,n,rfl,rfl⟩<;>simp only [Option.getD_some,Option.getD_none] at *
 ·simp [Instr.sliceBounds,run_sliceBound w.toWorld _ _ _ _ (show 0≤m by omega) h3,run_sliceBound w.toWorld _ _ _ _ (show 0≤q by omega) (show q≤((m.toNat:Nat):Int) by omega)]
 ·simp [Instr.sliceBounds,run_sliceBound w.toWorld _ _ _ _ (show 0≤m by omega) h3,run_sliceBound w.toWorld _ _ _ _ (show 0≤q by omega) (show q≤((m.toNat:Nat):Int) by omega),run_sliceBound w.toWorld _ _ _ _ h0 (show n≤((q.toNat:Nat):Int) by omega)]
theorem jav {t e:TypeId} {sz:Nat} (hu:P.underlying t=some (.slice e)) (hs:jba P e=some sz) {A:Option Addr} {n c lo hi mx:Nat} {vlo vhi vmx:Option Value} (hb:(Instr.sliceBounds true n c vlo vhi vmx).run P w.toWorld=.ok (lo,hi,mx) w.toWorld) :
  ∃ A',(Instr.sliceAt t (.slice A n c) vlo vhi vmx).run P w.toWorld=.ok (.slice A' (hi - lo) (mx - lo)) w.toWorld∧((A=none∧A'=none)∨∃ ad,A=some ad∧A'=some (if mx=lo then ad else ad.add (lo * sz))):=by
 cases A with
 | none=>exact ⟨none,by simp [Instr.sliceAt,run_underlying hu,Instr.slice,hb,jag hs],.inl ⟨rfl,rfl⟩⟩
 | some ad=>exact ⟨some (if mx=lo then ad else ad.add (lo * sz)),by simp only [Instr.sliceAt,run_underlying hu,Instr.slice,hb,jag hs,Sem.run_bind,Result.andThen_ok,Sem.run_pure,Option.map_some];split<;>rfl,.inr ⟨ad,rfl,rfl⟩⟩
theorem jbp {a:Option AV} {v:Option Value} {i:Int} (ha:jbA a=some (some i)) (hr:∀ x y,a=some x→v=some y→RelV w x y) (hs:a.isSome=v.isSome):∃ k,v=some (.int k i):=by
 rcases jah ha hr hs with ⟨h,_⟩ | ⟨k,n,h,rfl⟩
 ·cases h
 ·cases h;exact ⟨k,rfl⟩
theorem jas {a:Option AV} {v:Option Value} (ha:jbA a=some none) (hr:∀ x y,a=some x→v=some y→RelV w x y) (hs:a.isSome=v.isSome):v=none:=by
 rcases jah ha hr hs with ⟨_,h⟩ | ⟨k,n,h,rfl⟩
 ·exact h
 ·cases h
theorem jfn (t:TypeId) {a:AV} {lo hi mx:Option AV} {va:Value} {vlo vhi vmx:Option Value} (ha:RelV w a va) (hlo:∀ x y,lo=some x→vlo=some y→RelV w x y) (slo:lo.isSome=vlo.isSome)
  (hhi:∀ x y,hi=some x→vhi=some y→RelV w x y) (shi:hi.isSome=vhi.isSome) (hmx:∀ x y,mx=some x→vmx=some y→RelV w x y) (smx:mx.isSome=vmx.isSome):jcV P w (Instr.sliceAt t va vlo vhi vmx) (jbs P t a lo hi mx):=by
 intro hq
 unfold jbs at *
 split at hq<;>try exact hq.elim
 ·rename_i s l h e1 e2 e3
  obtain rfl:=jas e3 hmx smx
  have:=jab ha;subst this
  have ht:=jlU hq.1
  obtain ⟨h0,h1,h2⟩:=hq.2
  have hb:=jaJ (P:=P) (w:=w) (isSlice:=false) (jah e1 hlo slo) (jah e2 hhi shi) h0 h1 h2
  exact ⟨_,by simp [Instr.sliceAt,run_underlying ht,Instr.slice,hb],.raw _⟩
 ·rename_i x sz css d l h e1 e2 e3
  obtain rfl:=jas e3 hmx smx
  obtain ⟨e,hu,hs⟩:=jau hq.1
  obtain ⟨h0,h1,h2⟩:=hq.2
  have key:∀ n c:Nat,n=css.length→n≤c→(Instr.sliceBounds true n c vlo vhi none).run P w.toWorld=.ok ((l.getD 0).toNat,(h.getD css.length).toNat,c) w.toWorld:=fun n c hn hc=>by
   subst hn
   exact jaJ (P:=P) (w:=w) (isSlice:=true) (jah e1 hlo slo) (jah e2 hhi shi) h0 h1 (by omega)
  generalize hL:l.getD 0=L at *
  generalize hh:h.getD (css.length:Int)=Hh at *
  obtain ⟨Ln,rfl⟩:=Int.eq_ofNat_of_zero_le h0
  obtain ⟨Hn,rfl⟩:=Int.eq_ofNat_of_zero_le (show (0:Int)≤Hh by omega)
  simp only [Int.toNat_natCast] at key ⊢
  have hlen:((css.drop Ln).take (Hn - Ln)).length=Hn - Ln:=by simp;omega
  cases ha with
  | sl0 _ _ A c hx=>
   obtain ⟨A',hrun,_⟩:=jav hu hs (A:=A) (key 0 c rfl (Nat.zero_le _))
   obtain rfl:Hn=0:=by simp at h2;omega
   refine ⟨_,hrun,?_⟩
   simp only [Nat.zero_sub,List.take_zero]
   exact .sl0 _ _ _ _ (fun h=>by cases h)
  | sl _ _ _ ad c vs hn hc hx hsz hb' hH hcell hr=>
   obtain ⟨A',hrun,hA⟩:=jav hu hs (A:=some ad) (key _ c rfl hc)
   refine ⟨_,hrun,?_⟩
   by_cases hz:Hn - Ln=0
   ·rw [hz,List.take_zero];exact .sl0 _ _ _ _ (fun h=>by cases h)
   ·rcases hA with ⟨h,_⟩ | ⟨ad',h,rfl⟩
    ·cases h
    cases h
    rw [if_neg (by omega)]
    have hg:∀ i,i < Hn - Ln→((css.drop Ln).take (Hn - Ln)).getD i []=css.getD (Ln+i) []:=fun i hi=>by simp [List.getElem?_take,hi]
    have:=RelV.sl (w:=w) (d:=d) false sz ((css.drop Ln).take (Hn - Ln)) (ad.add (Ln * sz)) (c - Ln) (fun j=>vs (Ln * sz+j)) (by omega) (by omega) (fun h=>by cases h) (fun cs hcs=>hsz _ (List.mem_of_mem_drop (List.mem_of_mem_take hcs))) (by rw [jam];exact hb') (by rw [jam];exact hH)
     (fun i j hi hj=>by
      rw [jbF,show Ln * sz+(i * sz+j)=(Ln+i) * sz+j by rw [Nat.add_mul];omega]
      exact hcell _ j (by omega) hj) (fun i j u hi hu=>by
      rw [hg i (by omega)] at hu
      rw [show Ln * sz+(i * sz+j)=(Ln+i) * sz+j by rw [Nat.add_mul];omega]
      exact hr _ j u (by omega) hu)
    rw [hlen] at this
    exact this
 ·rename_i d m sz n h e1 e2 e3
  obtain rfl:=jas e3 hmx smx
  obtain rfl:=jas e1 hlo slo
  obtain ⟨e,hu,hs⟩:=jau hq.1
  obtain ⟨h1,h2⟩:=hq.2
  have key:∀ c:Nat,n≤c→(Instr.sliceBounds true n c none vhi none).run P w.toWorld=.ok (0,(h.getD n).toNat,c) w.toWorld:=fun c hc=>by
   have:=jaJ (P:=P) (w:=w) (isSlice:=true) (len:=n) (cap:=c) (lo:=none) (vlo:=none) (.inl ⟨rfl,rfl⟩) (jah e2 hhi shi) (by simp) (by simpa using h1) (by omega)
   simpa using this
  cases ha with
  | rs0 _ _ _ A hn=>
   obtain ⟨A',hrun,_⟩:=jav hu hs (A:=A) (key 0 (Nat.zero_le _))
   have h0:(h.getD 0).toNat=0:=by simp at h2;omega
   refine ⟨_,hrun,?_⟩
   simp only [Nat.sub_zero,Int.ofNat_zero]
   rw [h0]
   exact .rs0 d m sz A' hn
  | rs _ _ _ _ b t c hn hc hle hs0=>
   obtain ⟨A',hrun,hA⟩:=jav hu hs (A:=some ⟨b,0,none⟩) (key c hle)
   refine ⟨_,hrun,?_⟩
   rcases hA with ⟨h',_⟩ | ⟨ad',h',rfl⟩
   ·cases h'
   cases h'
   have:(if c=0 then (⟨b,0,none⟩:Addr) else (⟨b,0,none⟩:Addr).add (0 * sz))=⟨b,0,none⟩:=by rw [Nat.zero_mul,jcW];simp
   rw [this]
   simp only [Nat.sub_zero]
   exact .rs d m sz _ b t c hn hc (by omega) hs0
 ·rename_i d m sz n l h e1 e2 e3
  obtain rfl:=jas e3 hmx smx
  obtain ⟨e,hu,hs⟩:=jau hq.1
  obtain ⟨h0,h1,h2⟩:=hq.2
  have key:∀ c:Nat,n≤c→(Instr.sliceBounds true n c vlo vhi none).run P w.toWorld=.ok (l.toNat,(h.getD n).toNat,c) w.toWorld:=fun c hc=>
   jaJ (P:=P) (w:=w) (isSlice:=true) (len:=n) (cap:=c) (lo:=some l) (jah e1 hlo slo) (jah e2 hhi shi) h0 h1 (by omega)
  cases ha with
  | rs0 _ _ _ A hn=>
   obtain ⟨A',hrun,_⟩:=jav hu hs (A:=A) (key 0 (Nat.zero_le _))
   refine ⟨_,hrun,?_⟩
   have:(h.getD (0:Nat)).toNat - l.toNat=0:=by simp at h1 h2 ⊢;omega
   rw [this]
   exact .rv0 d m sz _ _ _
  | rs _ _ _ _ b t c hn hc hle hs0=>
   obtain ⟨A',hrun,hA⟩:=jav hu hs (A:=some ⟨b,0,none⟩) (key c hle)
   refine ⟨_,hrun,?_⟩
   by_cases hz:(h.getD n).toNat - l.toNat=0
   ·rw [hz];exact .rv0 d m sz _ _ _
   ·rcases hA with ⟨h',_⟩ | ⟨ad',h',rfl⟩
    ·cases h'
    cases h'
    rw [if_neg (by omega),jak,Nat.zero_add]
    exact .rv d m sz _ _ b t _ hn (by omega)
 ·rename_i d m sz n h e1 e2 e3
  obtain rfl:=jas e3 hmx smx
  obtain rfl:=jas e1 hlo slo
  obtain ⟨e,hu,hs⟩:=jau hq.1
  obtain ⟨h1,h2⟩:=hq.2
  cases ha with
  | rc _ _ _ _ b t hn hc hle hs0=>
   have key:(Instr.sliceBounds true n m none vhi none).run P w.toWorld=.ok (0,(h.getD n).toNat,m) w.toWorld:=by
    have:=jaJ (P:=P) (w:=w) (isSlice:=true) (len:=n) (cap:=m) (lo:=none) (vlo:=none) (.inl ⟨rfl,rfl⟩) (jah e2 hhi shi) (by simp) (by simpa using h1) (by omega)
    simpa using this
   obtain ⟨A',hrun,hA⟩:=jav hu hs (A:=some ⟨b,0,none⟩) key
   refine ⟨_,hrun,?_⟩
   rcases hA with ⟨h',_⟩ | ⟨ad',h',rfl⟩
   ·cases h'
   cases h'
   have:(if m=0 then (⟨b,0,none⟩:Addr) else (⟨b,0,none⟩:Addr).add (0 * sz))=⟨b,0,none⟩:=by rw [Nat.zero_mul,jcW];simp
   rw [this]
   simp only [Nat.sub_zero]
   exact .rc d m sz _ b t hn hc (by omega) hs0
 ·rename_i d m sz n l h e1 e2 e3
  obtain rfl:=jas e3 hmx smx
  obtain ⟨e,hu,hs⟩:=jau hq.1
  obtain ⟨h0,h1,h2⟩:=hq.2
  cases ha with
  | rc _ _ _ _ b t hn hc hle hs0=>
   have key:(Instr.sliceBounds true n m vlo vhi none).run P w.toWorld=.ok (l.toNat,(h.getD n).toNat,m) w.toWorld:=
    jaJ (P:=P) (w:=w) (isSlice:=true) (len:=n) (cap:=m) (lo:=some l) (jah e1 hlo slo) (jah e2 hhi shi) h0 h1 (by omega)
   obtain ⟨A',hrun,hA⟩:=jav hu hs (A:=some ⟨b,0,none⟩) key
   refine ⟨_,hrun,?_⟩
   by_cases hz:(h.getD n).toNat - l.toNat=0
   ·rw [hz];exact .rv0 d m sz _ _ _
   ·rcases hA with ⟨h',_⟩ | ⟨ad',h',rfl⟩
    ·cases h'
    cases h'
    rw [if_neg (by omega),jak,Nat.zero_add]
    exact .rv d m sz _ _ b t _ hn (by omega)
 ·rename_i d m sz n l h x e1 e2 e3
  obtain ⟨kx,rfl⟩:=jbp e3 hmx smx
  obtain ⟨kh,rfl⟩:=jbp e2 hhi shi
  obtain ⟨e,hu,hs⟩:=jau hq.1
  obtain ⟨h0,h1,h2,h3⟩:=hq.2
  cases ha with
  | rc _ _ _ _ b t hn hc hle hs0=>
   have key:(Instr.sliceBounds true n m vlo (some (.int kh h)) (some (.int kx x))).run P w.toWorld=.ok ((l.getD 0).toNat,h.toNat,x.toNat) w.toWorld:=
    jcZ (P:=P) (w:=w) (len:=n) (cap:=m) (jah e1 hlo slo) h0 h1 h2 (by omega)
   obtain ⟨A',hrun,hA⟩:=jav hu hs (A:=some ⟨b,0,none⟩) key
   refine ⟨_,hrun,?_⟩
   by_cases hz:h.toNat - (l.getD 0).toNat=0
   ·rw [hz];exact .rv0 d m sz _ _ _
   ·rcases hA with ⟨h',_⟩ | ⟨ad',h',rfl⟩
    ·cases h'
    cases h'
    rw [if_neg (by omega),jak,Nat.zero_add]
    exact .rv d m sz _ _ b t _ hn (by omega)
 ·rename_i d m sz o n l h e1 e2 e3
  obtain rfl:=jas e3 hmx smx
  obtain ⟨e,hu,hs⟩:=jau hq.1
  obtain ⟨h0,h1,h2⟩:=hq.2
  have key:∀ c:Nat,n≤c→(Instr.sliceBounds true n c vlo vhi none).run P w.toWorld=.ok ((l.getD 0).toNat,(h.getD n).toNat,c) w.toWorld:=fun c hc=>
   jaJ (P:=P) (w:=w) (isSlice:=true) (len:=n) (cap:=c) (jah e1 hlo slo) (jah e2 hhi shi) h0 h1 (by omega)
  cases ha with
  | rv0 _ _ _ _ c A=>
   obtain ⟨A',hrun,_⟩:=jav hu hs (A:=A) (key c (Nat.zero_le _))
   refine ⟨_,hrun,?_⟩
   have:(h.getD (0:Nat)).toNat - (l.getD 0).toNat=0:=by simp at h1 h2 ⊢;omega
   rw [this]
   exact .rv0 d m sz _ _ _
  | rv _ _ _ _ _ b t c hn hle=>
   obtain ⟨A',hrun,hA⟩:=jav hu hs (A:=some ⟨b,o * sz,none⟩) (key c hle)
   refine ⟨_,hrun,?_⟩
   by_cases hz:(h.getD n).toNat - (l.getD 0).toNat=0
   ·rw [hz];exact .rv0 d m sz _ _ _
   ·rcases hA with ⟨h',_⟩ | ⟨ad',h',rfl⟩
    ·cases h'
    cases h'
    rw [if_neg (by omega),jak,← Nat.add_mul]
    exact .rv d m sz _ _ b t _ hn (by omega)
 ·rename_i d m sz n l h x e1 e2 e3
  obtain ⟨kx,rfl⟩:=jbp e3 hmx smx
  obtain ⟨kh,rfl⟩:=jbp e2 hhi shi
  obtain ⟨e,hu,hs⟩:=jau hq.1
  obtain ⟨h0,h1,h2,h3⟩:=hq.2
  have key:∀ c:Nat,n≤c→(Instr.sliceBounds true n c vlo (some (.int kh h)) (some (.int kx x))).run P w.toWorld=.ok ((l.getD 0).toNat,h.toNat,x.toNat) w.toWorld:=fun c hc=>
   jcZ (P:=P) (w:=w) (len:=n) (cap:=c) (jah e1 hlo slo) h0 h1 h2 (by omega)
  cases ha with
  | rs0 _ _ _ A hn=>
   obtain ⟨A',hrun,_⟩:=jav hu hs (A:=A) (key 0 (Nat.zero_le _))
   refine ⟨_,hrun,?_⟩
   have:h.toNat - (l.getD 0).toNat=0:=by simp at h1 h2 h3 ⊢;omega
   rw [this]
   exact .rv0 d m sz _ _ _
  | rs _ _ _ _ b t c hn hc hle hs0=>
   obtain ⟨A',hrun,hA⟩:=jav hu hs (A:=some ⟨b,0,none⟩) (key c hle)
   refine ⟨_,hrun,?_⟩
   by_cases hz:h.toNat - (l.getD 0).toNat=0
   ·rw [hz];exact .rv0 d m sz _ _ _
   ·rcases hA with ⟨h',_⟩ | ⟨ad',h',rfl⟩
    ·cases h'
    cases h'
    rw [if_neg (by omega),jak,Nat.zero_add]
    exact .rv d m sz _ _ b t _ hn (by omega)
 ·rename_i l h e1 e2 e3
  obtain rfl:=jas e3 hmx smx
  have:=jab ha;subst this
  obtain ⟨_,hsz,h0,h1⟩:=hq
  obtain ⟨sz,hsz⟩:=Option.isSome_iff_exists.1 hsz
  obtain ⟨e,hu,hs⟩:=jau hsz
  have hb:=jaJ (P:=P) (w:=w) (isSlice:=true) (len:=0) (cap:=0) (jah e1 hlo slo) (jah e2 hhi shi) (by omega) (by simp;omega) (by simp;omega)
  simp only [h0,Int.toNat_zero,h1,Int.ofNat_zero] at hb
  exact ⟨_,by simp [Instr.sliceAt,run_underlying hu,Instr.slice,hb,jag hs],.raw _⟩
theorem jgg (s d:TypeId) {a:AV} {v:Value} (h:RelV w a v):jcV P w (convert s d v) (jfh P s d a):=by
 intro hq
 unfold jfh at *
 split at hq<;>try exact hq.elim
 ·rename_i k' n k e
  have:=jab h;subst this
  have hd:P.underlying d=some (.int k):=by unfold jiJ at e;split at e<;>simp_all
  obtain ⟨ds,hs⟩:=Option.isSome_iff_exists.1 hq
  refine ⟨.int k (k.wrap n),?_,.raw _⟩
  cases ds<;>simp [convert,run_underlying hs,run_underlying hd,Conv.intToInt]
 ·rename_i s' e
  have:=jab h;subst this
  have hd:=jlU hq.2
  obtain ⟨ds,hs⟩:=Option.isSome_iff_exists.1 hq.1
  refine ⟨.string s',?_,.raw _⟩
  cases ds<;>simp [convert,run_underlying hs,run_underlying hd]
theorem jcE (mx:Bool) (ts:Array TypeId) (ty:TypeId) {l:List AV} {vs:List Value} (h:RelL w l vs):jcV P w (if mx then Builtin.max_ ts ty vs.toArray else Builtin.min_ ts ty vs.toArray) (jb2 mx l):=by
 intro hq
 unfold jb2 at *
 split at hq<;>try exact hq.elim
 rename_i k a k' b
 obtain ⟨hl,hr⟩:=h
 match vs,hl with
 | [x,y],_=>
  obtain rfl:k=k':=hq
  obtain rfl:=jab (hr 0 _ _ rfl rfl);obtain rfl:=jab (hr 1 _ _ rfl rfl)
  cases mx<;>exact ⟨_,by simp [Builtin.max_,Builtin.min_,Builtin.max2,Builtin.min2];rfl,by simpa using RelV.raw _⟩
theorem jdW {pl:Nat→Option (Nat×Nat)}:∀ {parts:List (Nat×AV)} {vparts:List (Nat×Value)} {cells:List AV} {cur:Array Value} {out:List AV},
  jdV pl cells parts=some out→parts.map (·.1)=vparts.map (·.1)→(∀ (i:Nat) a v,parts[i]?=some a→vparts[i]?=some v→RelL w a.2.cells v.2.cells.toList)→RelL w cells cur.toList→
  ∃ vs,Instr.fill pl cur vparts=some vs∧RelL w out vs.toList
 | [],[],cells,cur,out,h,_,_,hc=>by
  simp only [jdV,Option.some.injEq] at h
  subst h
  exact ⟨cur,rfl,hc⟩
 | [],_::_,_,_,_,_,he,_,_=>by simp at he
 | _::_,[],_,_,_,_,he,_,_=>by simp at he
 | (i,a)::parts,(i',v)::vparts,cells,cur,out,h,he,hr,hc=>by
  simp only [List.map_cons,List.cons.injEq] at he
  obtain ⟨rfl,he⟩:=he
  simp only [jdV] at h
  split at h
  ·rename_i off k hp
   split at h
   ·rename_i hk
    have hv:=hr 0 _ _ rfl rfl
    simp only at hv
    have hlen:v.cells.size=k:=by have:=hv.1;simp at this;omega
    have hcur:cells.length=cur.size:=by simpa using hc.1
    have hset:∀ (l:List Value) (o:Nat) (c:Array Value),(l.toArray.zipIdx.foldl (fun cs (x,j)=>cs.setIfInBounds (o+j) x) c)=(c.toList.take o++l++c.toList.drop (o+l.length)).toArray∨c.size < o+l.length:=by
     intro l o c
     by_cases hb:c.size < o+l.length
     ·exact .inr hb
     ·refine .inl ?_
      have gen:∀ (l:List Value) (s:Nat) (c:Array Value),o+s+l.length≤c.size→((l.zipIdx s).foldl (fun (cs:Array Value) (p:Value×Nat)=>cs.setIfInBounds (o+p.2) p.1) c)=(c.toList.take (o+s)++l++c.toList.drop (o+s+l.length)).toArray:=by
       intro l
       induction l with
       | nil=>intro s c _;simp
       | cons x l ih=>
        intro s c hb
        simp only [List.zipIdx_cons,List.foldl_cons]
        rw [ih (s+1) _ (by simp at hb ⊢;omega)]
        apply Array.ext'
        simp only [Array.toList_setIfInBounds]
        apply List.ext_getElem?
        intro m
        simp only [List.length_cons] at hb
        rcases Nat.lt_or_ge m (o+s) with h1 | h1
        ·rw [List.append_assoc,List.getElem?_append_left (by simp;omega),List.append_assoc,List.getElem?_append_left (by simp;omega)]
         simp only [List.getElem?_take,List.getElem?_set]
         rw [if_pos (by omega),if_neg (by omega),if_pos h1]
        ·rcases Nat.lt_or_ge m (o+s+1) with h2 | h2
         ·obtain rfl:m=o+s:=by omega
          rw [List.append_assoc,List.getElem?_append_left (by simp;omega),List.append_assoc,List.getElem?_append_right (by simp;omega)]
          simp only [List.getElem?_take,List.getElem?_set,List.length_take,Array.length_toList]
          rw [if_pos (by omega)]
          simp only [Nat.add_assoc,if_true]
          rw [if_pos (by omega),show o+s - min (o+s) c.size=0 by omega]
          rfl
         ·rw [List.append_assoc,List.append_assoc,List.cons_append,List.getElem?_append_right (l₁:=List.take (o+(s+1)) _) (by simp;omega),List.getElem?_append_right (l₁:=List.take (o+s) _) (by simp;omega)]
          simp only [List.length_take,List.length_set,Array.length_toList]
          rw [show m - min (o+s) c.size=(m - min (o+(s+1)) c.size)+1 by omega,List.getElem?_cons_succ]
          rcases Nat.lt_or_ge (m - min (o+(s+1)) c.size) l.length with h3 | h3
          ·rw [List.getElem?_append_left h3,List.getElem?_append_left h3]
          ·rw [List.getElem?_append_right h3,List.getElem?_append_right h3]
           simp only [List.getElem?_drop,List.getElem?_set,List.length_cons]
           rw [if_neg (by omega)]
           congr 1
           omega
      have:=gen l 0 c (by omega)
      simp only [Nat.add_zero] at this
      rw [← this,← Array.foldl_toList]
      simp
    have hfit:¬ (cur.size < off+v.cells.toList.length):=by simp;omega
    have hs:=(hset v.cells.toList off cur).resolve_right hfit
    rw [Array.toArray_toList] at hs
    obtain ⟨vs,h1,h2⟩:=jdW (cur:=(cur.toList.take off++v.cells.toList++cur.toList.drop (off+v.cells.toList.length)).toArray) h he (fun i a v ha hv=>hr (i+1) a v (by simpa using ha) (by simpa using hv)) (by
     refine ⟨by simp [jaE];omega,fun m x y hx hy=>?_⟩
     simp only [jaE] at hx
     rcases Nat.lt_or_ge m off with g1 | g1
     ·rw [List.append_assoc,List.getElem?_append_left (by simp;omega),List.getElem?_take,if_pos g1] at hx hy
      exact hc.2 m x y hx hy
     ·rcases Nat.lt_or_ge m (off+a.cells.length) with g2 | g2
      ·rw [List.append_assoc,List.getElem?_append_right (by simp;omega),List.getElem?_append_left (by simp;omega)] at hx hy
       simp only [List.length_take,Array.length_toList] at hx hy
       rw [show m - min off cells.length=m - off by omega] at hx
       rw [show m - min off cur.size=m - off by omega] at hy
       exact hv.2 _ x y hx hy
      ·rw [List.getElem?_append_right (by simp;omega)] at hx hy
       simp only [List.length_append,List.length_take,Array.length_toList,List.getElem?_drop] at hx hy
       rw [show off+a.cells.length+(m - (min off cells.length+a.cells.length))=m by omega] at hx
       rw [show off+v.cells.size+(m - (min off cur.size+v.cells.size))=m by omega] at hy
       exact hc.2 m x y hx hy)
    refine ⟨vs,?_,h2⟩
    simp only [Instr.fill,hp]
    rw [if_neg (by simp;omega),hs]
    exact h1
   ·cases h
  ·cases h
theorem jgf {t:TypeId} {pl:List (Nat×Nat)} (h:jdD P t=some pl):∃ fs:Array Field,P.underlying t=some (.struct fs)∧(fs.mapM (m:=Sem) fun f=>do pure (f.offset,← sizeOf f.type)).run P w.toWorld=.ok pl.toArray w.toWorld:=by
 unfold jdD at h
 split at h
 ·rename_i fs hu
  refine ⟨fs,hu,?_⟩
  rw [Array.mapM_eq_mapM_toList]
  have gen:∀ (l:List Field) (pl:List (Nat×Nat)),l.mapM (fun f=>(jba P f.type).map fun k=>(f.offset,k))=some pl→(l.mapM (m:=Sem) fun f=>do pure (f.offset,← sizeOf f.type)).run P w.toWorld=.ok pl w.toWorld:=by
   intro l
   induction l with
   | nil=>intro pl h;simp at h;subst h;simp
   | cons f l ih=>
    intro pl h
    rw [List.mapM_cons] at h
    simp only [Option.bind_eq_bind,Option.bind_eq_some_iff,Option.map_eq_some_iff,Option.pure_def,Option.some.injEq] at h
    obtain ⟨p,⟨k,hk,rfl⟩,rest,hrest,rfl⟩:=h
    rw [List.mapM_cons]
    simp only [Sem.run_bind,jag hk,Result.andThen_ok,Sem.run_pure,ih rest hrest]
  simp only [Sem.run_map,gen fs.toList pl h,Result.andThen_ok]
 ·cases h
theorem jfg (t:TypeId) {parts:List (Nat×AV)} {vparts:Array (Nat×Value)} (h1:parts.map (·.1)=vparts.toList.map (·.1)) (h2:∀ (i:Nat) a v,parts[i]?=some a→vparts.toList[i]?=some v→RelV w a.2 v.2):jcV P w (Instr.build t vparts) (jce P t parts):=by
 intro hq
 unfold jce at *
 split at hq<;>try exact hq.elim
 rename_i zs pl e1 e2
 split at hq<;>try exact hq.elim
 rename_i out hf
 obtain ⟨z,hz,rfl⟩:=jbQ (w:=w) e1
 obtain ⟨fs,hu,hp⟩:=jgf (w:=w) e2
 simp only [ones,List.all_eq_true] at hq
 have hone:∀ (i:Nat) a,parts[i]?=some a→ones a.2.cells=true:=fun i a ha=>by
  simp only [ones,List.all_eq_true]
  intro x hx
  exact hq x (List.mem_flatten.2 ⟨_,List.mem_map.2 ⟨a,List.mem_of_getElem? ha,rfl⟩,hx⟩)
 obtain ⟨vs,g1,g2⟩:=jdW (w:=w) (cur:=z.cells) hf h1 (fun i a v ha hv=>(h2 i a v ha hv).cells_rel (hone i a ha))
  ⟨by simp,fun i a v ha hv=>by
   simp only [List.getElem?_map,Option.map_eq_some_iff] at ha
   obtain ⟨x,hx,rfl⟩:=ha
   rw [hx] at hv;cases hv;exact .raw _⟩
 refine ⟨.agg vs,?_,.agg _ _ (by have:=g2.1;simpa using this) fun i a v ha hv=>g2.2 i a v ha (by simpa using hv)⟩
 have e:(fun i:Nat=>pl.toArray[i]?)=(fun i:Nat=>pl[i]?):=by funext i;simp
 simp only [Instr.build,Sem.run_bind,hz,Result.andThen_ok,run_underlying hu,hp,e,g1,Sem.run_pure]
end
section
variable {P:Program} {w:NW} {H:Hp} {ρ:Operand→Value} {ev:Operand→AV}
theorem jbM (hr:∀ x,RelV w (ev x) (ρ x)) (l:List Operand):RelL w (l.map ev) (l.map ρ):=
 ⟨by simp,fun i a v ha hv=>by
  simp only [List.getElem?_map,Option.map_eq_some_iff] at ha hv
  obtain ⟨x,hx,rfl⟩:=ha
  obtain ⟨y,hy,rfl⟩:=hv
  rw [hx] at hy;cases hy;exact hr x⟩
theorem jfd (hr:∀ x,RelV w (ev x) (ρ x)) (o:Option Operand):∀ x y,o.map ev=some x→o.map ρ=some y→RelV w x y:=by
 intro x y hx hy
 cases o with
 | none=>cases hx
 | some z=>cases hx;cases hy;exact hr z
theorem jaY {s:Sem Value} {q:PA} (hq:q.1) (h:jcV P w s q):∃ v,(do pure (Next.value (← s)):Sem Next).run P w.toWorld=.ok (.value v) w.toWorld∧RelV w q.2 v:=by
 obtain ⟨v,h1,h2⟩:=h hq
 exact ⟨v,by simp [h1],h2⟩
theorem jdC {c a b:Operand} {x y z:AV} {dst:Option Tmp} {ty:TypeId} {pos:String} {after:Array Edge} {guard:Option (Nat×Bool)} (hc:RelV w x (ρ c)) (ha:RelV w y (ρ a)) (hb:RelV w z (ρ b)) (hq:(jaT x y z).1) :
  ∃ v,(execOp ρ ⟨dst,.pick c a b,ty,pos,after,guard⟩).run P w.toWorld=.ok (.value v) w.toWorld∧RelV w (jaT x y z).2 v:=by
 obtain ⟨v,h1,h2⟩:=jdH (P:=P) hc ha hb hq
 refine ⟨v,?_,h2⟩
 simp only [execOp,Sem.run_bind,Sem.run_pure] at h1 ⊢
 cases hb:(asBool (ρ c)).run P w with
 | ok x w'=>rw [hb] at h1;simp only [Result.andThen_ok,Result.ok.injEq] at h1 ⊢;exact ⟨by rw [h1.1],h1.2⟩
 | halt e w'=>rw [hb] at h1;simp at h1
theorem jcU (o:Oper) (hw:RelW w H) (hr:∀ x,RelV w (ev x) (ρ x)) (hq:(vq P ev H o.op).1):∃ v,(execOp ρ o).run P w.toWorld=.ok (.value v) w.toWorld∧RelV w (vq P ev H o.op).2 v:=by
 obtain ⟨dst,op,ty,pos,after,guard⟩:=o
 cases op
 case move x=>exact ⟨_,rfl,hr x⟩
 case assign x=>exact ⟨_,rfl,hr x⟩
 case pick c a b=>
  obtain ⟨v,h1,h2⟩:=jdH (P:=P) (hr c) (hr a) (hr b) hq
  refine ⟨v,?_,h2⟩
  simp only [execOp,Sem.run_bind,Sem.run_pure] at h1 ⊢
  cases hb:(asBool (ρ c)).run P w with
  | ok x w'=>rw [hb] at h1;simp only [Result.andThen_ok,Result.ok.injEq] at h1 ⊢;exact ⟨by rw [h1.1],h1.2⟩
  | halt e w'=>rw [hb] at h1;simp at h1
 case nilCheck x=>exact jg6 x rfl (hr x) _ rfl hq
 case binOp op t x y t'=>exact jaY hq (jez op t x y (hr x) (hr y))
 case unOp op t x=>exact jaY hq (jie op (hr x))
 case load t a=>exact jaY hq (jgi t (hr a) hw)
 case fieldAddr t a f=>exact jaY hq (jdd t f (hr a))
 case field t a f=>exact jaY hq (jfj t f (hr a))
 case indexAddr t a i=>exact jaY hq (jdf t (hr a) (hr i))
 case index t a i=>exact jaY hq (jfm t (hr a) (hr i))
 case extract a i=>exact jaY hq (jd6 (hr a) i)
 case slice t a lo hi mx=>exact jaY hq (jfn t (hr a) (jfd hr lo) (by cases lo<;>rfl) (jfd hr hi) (by cases hi<;>rfl) (jfd hr mx) (by cases mx<;>rfl))
 case makeFunc fn first captured=>
  have:=jgh (P:=P) fn (jbM hr first.toList) (jbM hr captured.toList)
  have e1:(first.toList.map ρ).toArray=first.map ρ:=by rw [← Array.toList_map,Array.toArray_toList]
  have e2:(captured.toList.map ρ).toArray=captured.map ρ:=by rw [← Array.toList_map,Array.toArray_toList]
  rw [e1,e2] at this
  exact jaY hq this
 case makeInterface t x=>exact jaY hq (jfl t (hr x))
 case convert s d x=>exact jaY hq (jgg s d (hr x))
 case build t parts=>
  refine jaY hq (jfg t (by simp) fun i a v ha hv=>?_)
  simp only [List.getElem?_map,Option.map_eq_some_iff,Array.toList_map,Array.getElem?_toList] at ha hv
  obtain ⟨x,hx,rfl⟩:=ha
  obtain ⟨y,hy,rfl⟩:=hv
  rw [hx] at hy;cases hy;exact hr x.2
 case call c=>
  obtain ⟨callee,args,argTypes⟩:=c
  cases callee
  case builtin b=>
   simp only [vq] at hq ⊢
   generalize hts:argTypes.toList=ts at *
   obtain rfl:argTypes=ts.toArray:=by rw [← hts]
   have hrl:=jbM hr args.toList
   have hargs:args.map ρ=(args.toList.map ρ).toArray:=by rw [← Array.toList_map,Array.toArray_toList]
   have hrun:∀ s:Sem Value,(∀ cs,builtin b ts.toArray ty cs (args.toList.map ρ).toArray=(do pure (Next.value (← s))))→(execOp ρ ⟨dst,.call ⟨.builtin b,args,ts.toArray⟩,ty,pos,after,guard⟩)=(do pure (Next.value (← s))):=by
    intro s hs
    simp only [execOp,resolve,pure_bind,invoke,hargs]
    exact hs _
   generalize hus:args.toList.map ρ=us at *
   generalize hals:args.toList.map ev=als at *
   unfold jaA at *
   split at hq<;>try exact hq.elim
   ·rename_i t ts x als
    cases us with
    | nil=>have:=hrl.1;simp at this
    | cons u us=>
     rw [hrun _ (fun _=>rfl)]
     exact jaY hq (jg5 ty t ts us hw (hrl.2 0 _ _ rfl rfl))
   ·rename_i t ts x als
    cases us with
    | nil=>have:=hrl.1;simp at this
    | cons u us=>
     rw [hrun _ (fun _=>rfl)]
     exact jaY hq (jg2 ty t ts us (hrl.2 0 _ _ rfl rfl))
   ·rw [hrun _ (fun _=>rfl)]
    have:=jcE (P:=P) true ts.toArray ty hrl
    exact jaY hq this
   ·rw [hrun _ (fun _=>rfl)]
    have:=jcE (P:=P) false ts.toArray ty hrl
    exact jaY hq this
  all_goals exact hq.elim
 all_goals exact hq.elim
end
universe u
def jae (P:Program) (f:FuncId):Bool:=match P.funcs[f]? with
 | some fn => fn.body.isSome && !(fn.name == "runtime.NumGoroutine")
 | none=>false
def jax (P:Program) (f:FuncId) (args:List AV) (r:AV):Prop:=ACalls P f args [] fun r' l'=>r'=r∧l'=[]
def HCalls (P:Program) (f:FuncId) (args:List AV) (H:Hp) (K:AV→Hp→Prop):Prop:=
 ∀ (w:NW) (vs:Array Value),RelW w H→RelF w args vs→Calls P f vs w.toWorld fun e W=>∃ v r H' w',W=NW.toWorld w'∧e=.returned v∧K r H'∧RelW w' H'∧RelV w' r v∧Ext w H w' H'
theorem HCalls.mono {P:Program} {f:FuncId} {args:List AV} {H:Hp} {K K':AV→Hp→Prop} (h:HCalls P f args H K) (hk:∀ r H,K r H→K' r H):HCalls P f args H K':=
 fun w vs h1 h2=>(h w vs h1 h2).mono fun _ _ ⟨v,r,H',w',e0,e,k,g⟩=>⟨v,r,H',w',e0,e,hk _ _ k,g⟩
def jlK:AV→Option (FuncId×List AV×List AV)
 | .raw (.func (.func f) first captured)=>some (f,first.toList.map .raw,captured.toList.map .raw)
 | .clo f cs=>some (f,[],cs)
 | .bd f fs=>some (f,fs,[])
 | _=>none
-- what follows is hidden from simp: an argument that a later one's type hangs on is held fixed
inductive Dep {α:Sort u} (a:α):Type
 | mk
def jdM (H:Hp) (A:Nat→Prop) (_:Dep A):Prop:=∃ i,H.get i=none∧A i
def jcI (P:Program) (H:Hp) (t:TypeId) (a x:AV) (K:AV→Hp→Prop):Prop:=match a,jba P t with
 | .pt i m k j,some n=>match H.get i with
  | some r=>(ones x.cells=true∧x.cells.length=n∧jbN r m k j n)∧K .any (H.put i (jeH r k j x.cells))
  | none=>False
 | _,_=>False
def ja5 (P:Program) (H:Hp) (t:TypeId) (K:AV→Hp→Prop):Prop:=match jaG P t with
 | some zs=>jdM H (fun i=>K (.pt i 0 0 0) (H.put i (.var t (zs.map .raw)))) .mk
 | none=>False
def jiY (H:Hp) (t:TypeId) (x:AV) (K:AV→Hp→Prop):Prop:=ones x.cells=true∧jdM H (fun i=>K (.pt i 0 0 0) (H.put i (.var t x.cells))) .mk
def jes (sz:Nat):Nat→List (Nat×AV)→Prop
 | _,[]=>True
 | k,(i,a)::rest=>(i=k∧ones a.cells=true∧a.cells.length=sz)∧jes sz (k+1) rest
theorem jdA {sz:Nat}:∀ {k:Nat} {l:List (Nat×AV)},jes sz k l→l.map (·.1)=List.range' k l.length∧∀ p∈l,ones p.2.cells=true∧p.2.cells.length=sz
 | _,[],_=>⟨rfl,fun p hp=>by simp at hp⟩
 | k,(i,a)::rest,h=>by
  obtain ⟨⟨rfl,h1,h2⟩,h3⟩:=h
  obtain ⟨g1,g2⟩:=jdA h3
  refine ⟨by simp [g1,List.range'_succ],fun p hp=>?_⟩
  rcases List.mem_cons.1 hp with rfl | hp
  ·exact ⟨h1,h2⟩
  ·exact g2 p hp
def jaB (parts:List (Nat×AV)):List (List AV):=parts.map (·.2.cells)
def jfu (e:TypeId) (sz:Nat) (css:List (List AV)) (H:Hp) (K:AV→Hp→Prop):Prop:=
 (jaV noQ css.flatten=true∧K (.sl true sz css []) H)∨(0 < sz∧∃ i,H.get i=none∧K (.rs i css.length sz css.length) (H.put i (.vec e sz css)))
def jft (P:Program) (H:Hp) (t:TypeId) (n:Nat) (parts:List (Nat×AV)) (K:AV→Hp→Prop):Prop:=match elT P t with
 | some e=>match jba P e with
  | some sz=>(parts.length=n∧jes sz 0 parts∧n * sz≤16777216∧(n * sz=0∨(jaG P e).isSome=true))∧
   jfu e sz (jaB parts) H K
  | none=>False
 | none=>False
def jbk (P:Program) (ne:Bool) (t:TypeId) (x y:AV) (H:Hp) (K:AV→Hp→Prop):Prop:=match x,y with
 | .sl _ _ css _,.raw (.slice none 0 0)=>jai P t=true∧∀ b:Bool,(b=true→css=[])→K (.raw (.bool (ne ^^ b))) H
 | .rs _ _ _ n,.raw (.slice none 0 0)=>jai P t=true∧∀ b:Bool,(b=true→n=0)→K (.raw (.bool (ne ^^ b))) H
 | x,y=>(jb5 P (if ne then .neq else .eql) t x y).1∧K (jb5 P (if ne then .neq else .eql) t x y).2 H
def jfp (H:Hp):AV→Option (Prop×List (List AV))
 | .sl _ _ css _=>some (True,css)
 | .rs i m sz n=>match H.get i with
  | some (.vec _ sz' css)=>some (sz'=sz∧m=css.length∧n≤m,css.take n)
  | _=>none
 | .rv i m sz o n=>match H.get i with
  | some (.vec _ sz' css)=>some (sz'=sz∧m=css.length∧o+n≤m,(css.drop o).take n)
  | _=>none
 | .raw (.slice none 0 0)=>some (True,[])
 | _=>none
def jca (P:Program) (t:TypeId):Nat:=((P.info? t).map (·.bytes)).getD 0
def jhM (by_ n:Nat):Prop:=n * by_≤140737488355328∧n≤9223372036854775807
def jcr (css:List (List AV)) (n:Nat) (ys:List (List AV)):List (List AV):=css.take n++ys++css.drop (n+ys.length)
def jfW (i:Nat) (e:TypeId) (m sz n:Nat) (css ys:List (List AV)) (H:Hp) (K:AV→Hp→Prop):Prop:=if n=m then K (.rs i (m+ys.length) sz (n+ys.length)) (H.put i (.vec e sz (css++ys))) else K (.rs i (max m (n+ys.length)) sz (n+ys.length)) (H.put i (.vec e sz (jcr css n ys)))
theorem jh8 (css ys:List (List AV)):jcr css css.length ys=css++ys:=by simp [jcr]
theorem jfP {css:List (List AV)} {n:Nat} (ys:List (List AV)) (h:n≤css.length):(jcr css n ys).length=max css.length (n+ys.length):=by simp [jcr];omega
theorem jfr {i:Nat} {e:TypeId} {sz n:Nat} {css ys:List (List AV)} {H:Hp} {K:AV→Hp→Prop} (h:jfW i e css.length sz n css ys H K):K (.rs i (max css.length (n+ys.length)) sz (n+ys.length)) (H.put i (.vec e sz (jcr css n ys))):=by
 unfold jfW at h
 split at h
 ·rename_i e;subst e;rw [jh8,Nat.max_eq_right (by omega)];exact h
 ·exact h
def jeI (by_:Nat) (e:TypeId) (sz:Nat) (ys:List (List AV)) (a:AV) (H:Hp) (K:AV→Hp→Prop):Prop:=match a with
 | .rs i m sz' n=>match H.get i with
  | some (.vec e' sz'' css)=>(e'=e∧sz'=sz∧sz''=sz∧m=css.length∧n≤m∧jhM by_ (n+ys.length))∧jfW i e m sz n css ys H K
  | _=>False
 | .raw (.slice none 0 0)=>jhM by_ ys.length∧jdM H (fun i=>K (.rs i ys.length sz ys.length) (H.put i (.vec e sz ys))) .mk
 | .sl true sz' css _=>(sz'=sz∧jhM by_ (css.length+ys.length)∧(css.length=0∨0 < ys.length))∧jdM H (fun i=>K (.rs i (css.length+ys.length) sz (css.length+ys.length)) (H.put i (.vec e sz (css++ys)))) .mk
 | _=>False
def jkj (P:Program) (t:TypeId) (a x:AV) (H:Hp) (K:AV→Hp→Prop):Prop:=match elT P t with
 | some e=>match jba P e,jaG P e,jfp H x with
  | some sz,some zs,some (c,ys)=>(zs.length=sz∧0 < sz∧c∧jgs sz ys)∧jeI (jca P e) e sz ys a H K
  | _,_,_=>False
 | none=>False
def jbE (P:Program) (t t':TypeId) (a x:AV) (H:Hp) (K:AV→Hp→Prop):Prop:=
 ∀ (w:NW) va vx ty,RelW w H→RelV w a va→RelV w x vx→∃ (w':NW) (H':Hp) (r:AV) (v:Value),(Builtin.append_ #[t,t'] ty #[va,vx]).run P w.toWorld=.ok v w'.toWorld∧K r H'∧RelW w' H'∧RelV w' r v∧Ext w H w' H'
def jaL (P:Program) (b:Builtin) (ts:List TypeId) (args:List AV) (H:Hp) (K:AV→Hp→Prop):Prop:=
 ∀ (w:NW) vs ty cs,RelW w H→RelL w args vs→∃ (w':NW) (H':Hp) (r:AV) (v:Value),(builtin b ts.toArray ty cs vs.toArray).run P w.toWorld=.ok (.value v) w'.toWorld∧K r H'∧RelW w' H'∧RelV w' r v∧Ext w H w' H'
def jcK (P:Program) (o:Op) (ty:TypeId) (ev:Operand→AV) (H:Hp) (K:AV→Hp→Prop):Prop:=
 ∀ (w:NW) ρ dst pos after guard,RelW w H→(∀ x∈o.operands.toList,RelV w (ev x) (ρ x))→∃ (w':NW) (H':Hp) (r:AV),K r H'∧RelW w' H'∧Ext w H w' H'∧
  ((∃ v,(execOp ρ ⟨dst,o,ty,pos,after,guard⟩).run P w.toWorld=.ok (.value v) w'.toWorld∧RelV w' r v)∨((execOp ρ ⟨dst,o,ty,pos,after,guard⟩).run P w.toWorld=.ok .skip w'.toWorld∧r=.any))
def jgw (P:Program) (f:FuncId) (args:List AV) (H:Hp) (K:AV→Hp→Prop):Prop:=
 ∀ (w:NW) vs,RelW w H→RelF w args vs→∃ (v:Value) (w':NW) (r:AV) (H':Hp),(callFunc f vs).run P w.toWorld=.ok (.value v) w'.toWorld∧K r H'∧RelW w' H'∧RelV w' r v∧Ext w H w' H'
def jaU (P:Program) (f:AV) (args:List AV) (H:Hp) (K:AV→Hp→Prop):Prop:=match jlK f with
 | some (f,first,captured)=>(jae P f=true∧HCalls P f (first++args++captured) H K)∨jgw P f (first++args++captured) H K
 | none=>False
def jb3 (P:Program) (a:AV) (m:String) (args:List AV) (H:Hp) (K:AV→Hp→Prop):Prop:=match a with
 | .ifc t v=>match je9 P t m with
  | some f=>jaU P (.raw (.func (.func f) #[] #[])) (v::args) H K
  | none=>False
 | _=>False
def jac:Op→Bool
 | .box .. | .alloc _ | .store .. | .buildSlice .. | .makeMap .. | .makeSlice .. | .mapUpdate .. | .insert .. | .lookup .. | .range .. | .next .. | .entry .. | .typeAssert ..=>false
 | .binOp .eql .. | .binOp .neq ..=>false
 | .call { callee:=.builtin b,.. }=>match b with
  | .len | .cap | .max | .min=>true
  | _=>false
 | .call _=>false
 | _=>true
def vc (P:Program) (ev:Operand→AV) (H:Hp) (ty:TypeId) (K:AV→Hp→Prop):Op→Prop
 | .box t x=>jiY H t (ev x) K
 | .alloc t=>ja5 P H t K
 | .store t a x=>jcI P H t (ev a) (ev x) K
 | .buildSlice t n parts=>jft P H t n (parts.toList.map fun p=>(p.1,ev p.2)) K
 | .binOp .eql t x y _=>jbk P false t (ev x) (ev y) H K
 | .binOp .neq t x y _=>jbk P true t (ev x) (ev y) H K
 | .call { callee:=.value f,args,.. }=>jaU P (ev f) (args.toList.map ev) H K
 | .call { callee:=.invoke r m,args,.. }=>jb3 P (ev r) m (args.toList.map ev) H K
 | .call { callee:=.builtin .append,args,argTypes }=>match argTypes.toList,args.toList with
  | [t,t'],[a,x]=>jbE P t t' (ev a) (ev x) H K
  | _,_=>False
 | .call { callee:=.builtin b,args,argTypes }=>if jac (.call ⟨.builtin b,args,argTypes⟩) then (vq P ev H (.call ⟨.builtin b,args,argTypes⟩)).1∧K (vq P ev H (.call ⟨.builtin b,args,argTypes⟩)).2 H else jaL P b argTypes.toList (args.toList.map ev) H K
 | o=>if jac o then (vq P ev H o).1∧K (vq P ev H o).2 H else jcK P o ty ev H K
section
variable {P:Program} {ops:Array Oper} {F:List AV} {H:Hp}
theorem jja {o:Oper} {K:AV→Hp→Prop} (hq:(vq P (evA F) H o.op).1) (hk:K (vq P (evA F) H o.op).2 H):jmb P o F H K:=fun w tm h1 h2=>by
 obtain ⟨v,hr,hv⟩:=jcU o h1 (fun x=>h2.eval [] x) hq
 exact ⟨w,H,_,hk,h1,Ext.refl w H,.inl ⟨v,hr,hv⟩⟩
theorem jc5 {sz:Nat}:∀ (parts:List (Nat×AV)) (k:Nat) (pre zs:List AV),parts.map (·.1)=List.range' k parts.length→(∀ p∈parts,p.2.cells.length=sz)→pre.length=k * sz→zs.length=parts.length * sz→
  jdV (fun i=>some (i * sz,sz)) (pre++zs) parts=some (pre++(parts.map (·.2.cells)).flatten)
 | [],k,pre,zs,_,_,_,hz=>by
  have:zs=[]:=by simpa using hz
  simp [jdV,this]
 | (i,a)::parts,k,pre,zs,hp,hs,hk,hz=>by
  simp only [List.map_cons,List.length_cons,List.range'_succ,List.cons.injEq] at hp
  obtain ⟨rfl,hp⟩:=hp
  have ha:a.cells.length=sz:=hs (i,a) (by simp)
  have hz':zs.length=parts.length * sz+sz:=by rw [hz,List.length_cons,Nat.add_mul,Nat.one_mul]
  simp only [jdV]
  rw [if_pos ⟨ha,by simp;omega⟩]
  have e:jaE (pre++zs) (i * sz) a.cells=(pre++a.cells)++zs.drop sz:=by
   unfold jaE
   rw [← hk,List.take_left',List.drop_append,ha]
   ·simp
   ·rfl
  rw [e,jc5 parts (i+1) (pre++a.cells) (zs.drop sz) hp (fun p hp=>hs p (by simp [hp])) (by simp [hk,ha,Nat.add_mul]) (by simp;omega)]
  simp [List.append_assoc]
theorem jig {w:NW} {l:List AV} {vs:List Value} (h:RelL w l vs) {k:Nat} {u:AV} (hu:l[k]?=some u):RelV w u (vs.toArray.getD k undef):=by
 have hk:k < vs.length:=by rw [← h.1];exact (List.getElem?_eq_some_iff.1 hu).1
 refine h.2 k u _ hu ?_
 simp [hk]
theorem jgq {t:TypeId} {n:Nat} {parts:List (Nat×AV)} {vparts:Array (Nat×Value)} {K:AV→Hp→Prop} {w:NW} (hw:RelW w H) (h1:parts.map (·.1)=vparts.toList.map (·.1)) (h2:∀ (i:Nat) a v,parts[i]?=some a→vparts.toList[i]?=some v→RelV w a.2 v.2)
  (hv:jft P H t n parts K):∃ (w':NW) (H':Hp) (r:AV) (v:Value),(Instr.buildSlice t n vparts).run P w.toWorld=.ok v w'.toWorld∧K r H'∧RelW w' H'∧RelV w' r v∧Ext w H w' H':=by
 unfold jft at hv
 split at hv
 rotate_left
 ·exact hv.elim
 rename_i e he
 split at hv
 rotate_left
 ·exact hv.elim
 rename_i sz hse
 obtain ⟨⟨hlen,hok,hn,hz⟩,hk⟩:=hv
 have hu:P.underlying t=some (.slice e):=by unfold elT at he;split at he<;>simp_all
 obtain ⟨hp,hs⟩:=jdA hok
 rw [hlen,← List.range_eq_range'] at hp
 have hzr:∃ z:Array Value,(n * sz=0∧z=#[])∨(n * sz≠0∧∃ v,(zeroValue e).run P w.toWorld=.ok v w.toWorld∧v.cells=z):=by
  by_cases h0:n * sz=0
  ·exact ⟨#[],.inl ⟨h0,rfl⟩⟩
  ·have hz':=hz.resolve_left h0
   obtain ⟨zs,hzs⟩:=Option.isSome_iff_exists.1 hz'
   obtain ⟨z,hz1,_⟩:=jbQ (w:=w.toWorld) hzs
   exact ⟨z.cells,.inr ⟨h0,z,hz1,rfl⟩⟩
 obtain ⟨z,hz⟩:=hzr
 generalize hcur:(Array.range (n * sz)).map (z[· % z.size]!)=cur
 have hcs:cur.size=n * sz:=by subst hcur;simp
 have hf:=jc5 (sz:=sz) parts 0 [] (cur.toList.map .raw) (by rw [hp,hlen,List.range_eq_range']) (fun p hp=>(hs p hp).2) (by simp) (by simp [hcs,hlen])
 simp only [List.nil_append] at hf
 obtain ⟨vs,g1,g2⟩:=jdW (w:=w) (cur:=cur) hf h1 (fun i a v ha hv=>(h2 i a v ha hv).cells_rel (hs _ (List.mem_of_getElem? ha)).1)
  ⟨by simp,fun i a v ha hv=>by
   simp only [List.getElem?_map,Option.map_eq_some_iff] at ha
   obtain ⟨x,hx,rfl⟩:=ha
   rw [hx] at hv;cases hv;exact .raw _⟩
 have hrun:(Instr.buildSlice t n vparts).run P w.toWorld=.ok (.slice (some ⟨w.heap.size,0,none⟩) n n) (w.alloc (.cells vs e)):=by
  have hbig:¬ (n * sz > 2 ^ 24):=by omega
  rcases hz with ⟨h0,rfl⟩ | ⟨h0,v,hv,rfl⟩
  ·simp only [Instr.buildSlice,Sem.run_bind,run_underlying hu,Result.andThen_ok,jag hse,if_neg hbig,if_pos h0,Sem.run_pure,hcur,g1,newRow,run_newObj]
   rfl
  ·simp only [Instr.buildSlice,Sem.run_bind,run_underlying hu,Result.andThen_ok,jag hse,if_neg hbig,if_neg h0,hv,Sem.run_pure,hcur,g1,newRow,run_newObj]
   rfl
 have hln:(jaB parts).length=n:=by simp [jaB,hlen]
 have hls:∀ cs∈jaB parts,cs.length=sz:=fun cs hcs=>by
  obtain ⟨p,hp,rfl⟩:=List.mem_map.1 hcs
  exact (hs p hp).2
 have hfl:(jaB parts).flatten.length=n * sz:=by rw [jaf hls,hln]
 have hvs:vs.size=n * sz:=by have:=g2.1;simp only [Array.length_toList] at this;rw [← this];exact hfl
 rcases hk with ⟨hno,hk⟩ | ⟨h0,i,hi,hk⟩
 ·have ex:=Ext.alloc_free hw (.cells vs e)
  refine ⟨_,H,_,_,hrun,hk,hw.alloc_free _,?_,ex⟩
  by_cases h0:n=0
  ·have:jaB parts=[]:=List.length_eq_zero_iff.1 (by omega)
   rw [this,h0];exact .sl0 true sz _ 0 (fun _=>rfl)
  ·have:=RelV.sl (w:=w.to (w.alloc (.cells vs e))) (d:=[]) true sz (jaB parts) ⟨w.heap.size,0,none⟩ n (fun j=>vs.getD j undef) (by omega) (by omega) (fun _=>⟨hln.symm,vs,e,heap_alloc_new w.toWorld _⟩) hls (by simp) (fun h=>by have:=hw.fin _ h;simp at this) (fun i j hi hj=>by
    rw [jak,jcn w.heap.size _ vs e (0,0) (heap_alloc_new w.toWorld _)]
    have:=jfJ hi hj
    rw [hln] at this
    simp [show i * sz+j < vs.size by omega]) (fun i j u hi hu=>by
    have hj:j < sz:=by have:=(List.getElem?_eq_some_iff.1 hu).1;rwa [jbI hls hi] at this
    have hx:=jig g2 (k:=i * sz+j) (u:=u) (by rw [← hu];exact jar hls hi hj)
    rw [Array.toArray_toList] at hx
    refine (hx.strip (jaz hno (i:=i * sz+j) (by rw [← hu];exact jar hls hi hj))).keep ex.toKeep.bare (jaC u))
   rw [hln] at this
   exact this
 ·obtain ⟨q1,q2⟩:=jcs (row:=.vec e sz (jaB parts)) hw (hw.none hi _) (fun r' hr=>by rw [hi] at hr;cases hr) ⟨h0,hls⟩ vs ⟨rfl,by show (jaB parts).flatten.length≤_;omega⟩ (fun k a v ha hv=>g2.2 k a v ha (by simpa using hv))
  refine ⟨_,_,_,_,hrun,hk,q1,?_,q2⟩
  have:=RelV.rs (w:=((w.to (w.alloc ((Row.vec e sz (jaB parts)).obj vs))).seize w.heap.size).name i (Row.vec e sz (jaB parts)).ver (.at w.heap.size vs.size (Row.vec e sz (jaB parts)).stride)) i (jaB parts).length sz (jaB parts).length w.heap.size vs.size n (NW.name_same _ _ _ _) hvs.symm (by omega) h0
  rw [hln] at this ⊢
  exact this
theorem jcH (ne:Bool) (t:TypeId) {a b:AV} {va vb:Value} {K:AV→Hp→Prop} {w:NW} (x y:Operand) (ha:RelV w a va) (hb:RelV w b vb) (hv:jbk P ne t a b H K) :
  ∃ r v,(do eqGuard (if ne then .neq else .eql) t x y va vb;binOp (if ne then .neq else .eql) t va vb:Sem Value).run P w.toWorld=.ok v w.toWorld∧K r H∧RelV w r v:=by
 have key:∀ {n:Nat},jai P t=true→(∀ b:Bool,(b=true→n=0)→K (.raw (.bool (ne ^^ b))) H)→(∃ A c,va=.slice A n c∧(A=none→n=0))→vb=.slice none 0 0→
   ∃ r v,(do eqGuard (if ne then .neq else .eql) t x y va vb;binOp (if ne then .neq else .eql) t va vb:Sem Value).run P w.toWorld=.ok v w.toWorld∧K r H∧RelV w r v:=fun {n} h1 h2 h3 h4=>by
  obtain ⟨e,hu⟩:=jbt h1
  obtain ⟨A,c,rfl,hA⟩:=h3
  subst h4
  have he:(Op.equal t (.slice A n c) (.slice none 0 0)).run P w.toWorld=.ok A.isNone w.toWorld:=by
   refine ja2 (fun d=>?_)
   cases A<;>simp [Op.equalIn,run_underlying hu]
  obtain ⟨v,h1,h3⟩:=ja1 (P:=P) (w:=w) (ne:=ne) (t:=t) (x:=x) (y:=y) (fun op=>eqGuard_at_slice _ _ _ _ _ _ _ _) rfl rfl he
  exact ⟨_,v,h1,h2 A.isNone (fun h=>hA (by simpa using h)),h3⟩
 unfold jbk at hv
 split at hv
 ·rename_i z sz css _
  refine key (n:=css.length) hv.1 (fun b hb=>hv.2 b fun h=>List.length_eq_zero_iff.1 (hb h)) ?_ (jab hb)
  cases ha with
  | sl0 _ _ A c _=>exact ⟨A,c,rfl,fun _=>rfl⟩
  | sl _ _ _ ad c _ _ _ _ _ _ _ _ _=>exact ⟨some ad,c,rfl,fun h=>by cases h⟩
 ·rename_i i m sz n
  refine key (n:=n) hv.1 hv.2 ?_ (jab hb)
  cases ha with
  | rs0 _ _ _ A _=>exact ⟨A,0,rfl,fun _=>rfl⟩
  | rs _ _ _ _ b t c _ _ _ _=>exact ⟨some ⟨b,0,none⟩,c,rfl,fun h=>by cases h⟩
 ·obtain ⟨v,h1,h2⟩:=jez (P:=P) (if ne then .neq else .eql) t x y ha hb hv.1
  exact ⟨_,v,h1,hv.2,h2⟩
-- appends
theorem RelL.append {w:NW} {a b:List AV} {x y:List Value} (h:RelL w a x) (k:RelL w b y):RelL w (a++b) (x++y):=by
 refine ⟨by simp [h.1,k.1],fun i u v hu hv=>?_⟩
 rcases Nat.lt_or_ge i a.length with h1 | h1
 ·rw [List.getElem?_append_left h1] at hu
  rw [List.getElem?_append_left (by rw [← h.1];exact h1)] at hv
  exact h.2 i u v hu hv
 ·rw [List.getElem?_append_right h1] at hu
  rw [List.getElem?_append_right (by rw [← h.1];exact h1),← h.1] at hv
  exact k.2 _ u v hu hv
def ji5 (w:NW) (sz:Nat) (v:Value) (ys:List (List AV)):Prop:=∃ A c news,v=.slice A ys.length c∧RelL w ys.flatten news∧(0 < ys.length→∃ ad,A=some ad∧∀ (j:Nat) v,news[j]?=some v→w.cell? (ad.add j)=some v)
theorem jbi {w:NW} {sz:Nat} (A:Option Addr) (c:Nat):ji5 w sz (.slice A 0 c) []:=⟨A,c,[],rfl,⟨rfl,fun i a v h=>by simp at h⟩,fun h=>by simp at h⟩
theorem jd8 {w:NW} {sz c:Nat} {ys:List (List AV)} {ad:Addr} (hl:∀ y∈ys,y.length=sz) (h:∀ i j,i < ys.length→j < sz→∃ v,w.cell? (ad.add (i * sz+j))=some v∧∀ u,(ys.getD i [])[j]?=some u→RelV w u v):ji5 w sz (.slice (some ad) ys.length c) ys:=by
 have hfl:=jaf hl
 refine ⟨some ad,c,(List.range (ys.length * sz)).map fun k=>(w.cell? (ad.add k)).getD undef,rfl,⟨by simp [hfl],fun k a v ha hv=>?_⟩,fun _=>⟨ad,rfl,fun k v hv=>?_⟩⟩
 ·have hk:k < ys.length * sz:=by have:=(List.getElem?_eq_some_iff.1 ha).1;omega
  obtain ⟨i,j,hi,hj,rfl⟩:=jbf hk
  rw [jar hl hi hj] at ha
  obtain ⟨v',h1,h2⟩:=h i j hi hj
  simp only [List.getElem?_map,List.getElem?_range hk,Option.map_some,Option.some.injEq,h1,Option.getD_some] at hv
  subst hv
  exact h2 a ha
 ·have hk:k < ys.length * sz:=by have:=(List.getElem?_eq_some_iff.1 hv).1;simpa using this
  obtain ⟨i,j,hi,hj,rfl⟩:=jbf hk
  obtain ⟨v',h1,h2⟩:=h i j hi hj
  simp only [List.getElem?_map,List.getElem?_range hk,Option.map_some,Option.some.injEq,h1,Option.getD_some] at hv
  subst hv
  exact h1
theorem jcg {w:NW} (hw:RelW w H) {i:Nat} {e:TypeId} {sz:Nat} {css:List (List AV)} {b t s:Nat} (hi:H.get i=some (.vec e sz css)) (hn:w.nm i css.length=some (.at b t s)) {k j:Nat} (hk:k < css.length) (hj:j < sz) :
  s=sz∧(∀ cs∈css,cs.length=sz)∧css.length * sz≤t∧∃ v,w.cell? ⟨b,k * sz+j,none⟩=some v∧∀ u,(css.getD k [])[j]?=some u→RelV w u v:=by
 obtain ⟨hok,z,hz,hrow⟩:=hw.rows i _ hi
 have:z=.at b t s:=by have hz:w.nm i css.length=some z:=hz;rw [hn] at hz;cases hz;rfl
 subst this
 obtain ⟨hs_,cur,hh,⟨hs,hl⟩,hr⟩:=hrow
 have hs_:sz=s:=hs_.symm
 subst hs_
 have hfl:(Row.vec e sz css).cells.length=css.length * sz:=jaf hok.2
 have h3:=jfJ hk hj
 have h4:k * sz+j < cur.size:=by omega
 refine ⟨rfl,hok.2,by omega,cur[k * sz+j],?_,fun u hu=>?_⟩
 ·rw [jcn b _ cur _ (0,0) hh];simp [h4]
 ·refine hr (k * sz+j) u _ ?_ (by simp [h4])
  show css.flatten[k * sz+j]?=some u
  rw [jar hok.2 hk hj];exact hu
theorem jeG {w:NW} (hw:RelW w H) {x:AV} {vx:Value} (hx:RelV w x vx) {c:Prop} {ys:List (List AV)} {sz:Nat} (h:jfp H x=some (c,ys)) (hc:c) (hg:jgs sz ys):ji5 w sz vx ys:=by
 unfold jfp at h
 split at h
 ·rename_i xx sz' css _
  cases h
  cases hx with
  | sl0=>exact jbi _ _
  | sl _ _ _ ad c vs hn hc' hx hsz hb hH hcell hr=>
   have hz:sz'=sz:=by rw [← hsz (ys[0]) (List.getElem_mem hn),(hg _ (List.getElem_mem hn)).1]
   subst hz
   exact jd8 hsz fun i j hi hj=>⟨_,hcell i j hi hj,fun u hu=>(hr i j u hi hu).dress⟩
 ·rename_i i m sz' n
  split at h
  ·rename_i e sz2 css hi
   cases h
   obtain ⟨rfl,rfl,hn⟩:=hc
   cases hx with
   | rs0 _ _ _ A hnm=>rw [List.take_zero];exact jbi _ _
   | rs _ _ _ _ b t c hnm hc' hle hs0=>
    have hlen:(css.take n).length=n:=by simp;omega
    by_cases h0:n=0
    ·subst h0;rw [List.take_zero];exact jbi _ _
    have hz:sz2=sz:=by
     obtain ⟨_,hall,_⟩:=jcg hw hi hnm (k:=0) (j:=0) (by omega) hs0
     have h1:(css.take n)[0]'(by omega)∈css.take n:=List.getElem_mem _
     rw [← hall _ (List.mem_of_mem_take h1),(hg _ h1).1]
    subst hz
    have:=jd8 (w:=w) (sz:=sz2) (c:=c) (ys:=css.take n) (ad:=⟨b,0,none⟩) (fun y hy=>(hg y hy).1) fun i' j hi' hj=>by
     obtain ⟨_,_,_,v,h1,h2⟩:=jcg hw hi hnm (k:=i') (j:=j) (by omega) hj
     refine ⟨v,by rw [jak,Nat.zero_add];exact h1,fun u hu=>h2 u ?_⟩
     rw [← hu];simp [List.getElem?_take,show i' < n by omega]
    rw [hlen] at this
    exact this
  ·cases h
 ·rename_i i m sz' o n
  split at h
  ·rename_i e sz2 css hi
   cases h
   obtain ⟨rfl,rfl,hn⟩:=hc
   have hlen:((css.drop o).take n).length=n:=by simp;omega
   cases hx with
   | rv0 _ _ _ _ A=>rw [List.take_zero];exact jbi _ _
   | rv _ _ _ _ _ b t c hnm hle=>
    by_cases h0:n=0
    ·subst h0;rw [List.take_zero];exact jbi _ _
    have h1:((css.drop o).take n)[0]'(by omega)∈(css.drop o).take n:=List.getElem_mem _
    obtain ⟨hok,_⟩:=hw.rows i _ hi
    have hz:sz2=sz:=by rw [← hok.2 _ (List.mem_of_mem_drop (List.mem_of_mem_take h1)),(hg _ h1).1]
    subst hz
    have:=jd8 (w:=w) (sz:=sz2) (c:=c) (ys:=(css.drop o).take n) (ad:=⟨b,o * sz2,none⟩) (fun y hy=>(hg y hy).1) fun i' j hi' hj=>by
     obtain ⟨_,_,_,v,h1,h2⟩:=jcg hw hi hnm (k:=o+i') (j:=j) (by omega) hj
     refine ⟨v,by rw [jak,← Nat.add_assoc,← Nat.add_mul];exact h1,fun u hu=>h2 u ?_⟩
     rw [← hu];simp [List.getElem?_take,show i' < n by omega]
    rw [hlen] at this
    exact this
  ·cases h
 ·cases h
  have:=jab hx
  subst this
  exact jbi _ _
 ·cases h
theorem jdU {t e:TypeId} (he:elT P t=some e):P.underlying t=some (.slice e):=by unfold elT at he;split at he<;>simp_all
theorem jen {e:TypeId} {sz:Nat} {zs:List Value} (hsz:jba P e=some sz) (hz:jaG P e=some zs) (hl:zs.length=sz):∃ i z,P.info? e=some i∧i.size=sz∧i.zero=some z∧z.cells.size=sz∧jca P e=i.bytes:=by
 unfold jba at hsz
 cases hi:P.info? e with
 | none=>rw [hi] at hsz;cases hsz
 | some i=>
  rw [hi] at hsz
  unfold jaG at hz
  rw [hi] at hz
  simp only [Option.bind_some,Option.map_eq_some_iff] at hz
  obtain ⟨z,hz1,hz2⟩:=hz
  refine ⟨i,z,rfl,by simpa using hsz,hz1,?_,by simp [jca,hi]⟩
  rw [← hl,← hz2];simp
theorem jcb {w:NW} (hw:RelW w H) {i:Nat} {e:TypeId} {sz cap:Nat} {css:List (List AV)} {vals:List Value} {rest:Array Value} (h0:0 < sz) (hlen:∀ cs∈css,cs.length=sz) (hrel:RelL w css.flatten vals) (hcap:css.length≤cap) (hrest:rest.size=(cap - css.length) * sz)
  (hfree:w.nm i css.length=none) (hlater:∀ r,H.get i=some r→r.ver≤css.length) :
  ∃ w':NW,w'.toWorld=w.drew.alloc (.cells (vals.toArray++rest) e)∧RelW w' (H.put i (.vec e sz css))∧Ext w H w' (H.put i (.vec e sz css))∧RelV w' (.rs i css.length sz css.length) (.slice (some ⟨w.heap.size,0,none⟩) css.length cap):=by
 have hfl:=jaf hlen
 have hvl:vals.length=css.length * sz:=by rw [← hrel.1,hfl]
 have hsz:(vals.toArray++rest).size=cap * sz:=by
  simp only [Array.size_append,List.size_toArray,hvl,hrest]
  rw [← Nat.add_mul];congr 1;omega
 have hle:=Nat.mul_le_mul_right sz hcap
 obtain ⟨g1,g2⟩:=jcs (row:=.vec e sz css) hw.drew hfree hlater ⟨h0,hlen⟩ (vals.toArray++rest) ⟨rfl,by show css.flatten.length≤_;omega⟩ (fun k a v ha hv=>by
  have hi:k < vals.length:=by rw [← hrel.1];exact (List.getElem?_eq_some_iff.1 ha).1
  rw [Array.getElem?_append_left (by simpa using hi)] at hv
  exact (hrel.2 k a v ha (by simpa using hv)).ext (Ext.drew w H))
 refine ⟨_,rfl,g1,(Ext.drew w H).trans g2,?_⟩
 exact RelV.rs i css.length sz css.length w.heap.size (vals.toArray++rest).size cap (NW.name_same _ _ _ _) hsz.symm hcap h0
theorem jcx {t:TypeId} {a x:AV} {K:AV→Hp→Prop} (h:jkj P t a x H K):jbE P t t a x H K:=by
 intro w va vx ty hw hra hrx
 unfold jkj at h
 split at h
 rotate_left
 ·exact h.elim
 rename_i e he
 split at h
 rotate_left
 ·exact h.elim
 rename_i sz zs c ys hse hze hsrc
 obtain ⟨⟨hzl,h0,hc,hg⟩,h⟩:=h
 have hu:=jdU he
 obtain ⟨i,z,hi,hisz,hiz,hzs,hby⟩:=jen hse hze hzl
 obtain ⟨A,cx,news,rfl,hnews,haddr⟩:=jeG hw hrx hsrc hc hg
 have hfl:ys.flatten.length=ys.length * sz:=jaf fun y hy=>(hg y hy).1
 have hnl:news.length=ys.length * sz:=by rw [← hnews.1,hfl]
 have hzc:∀ m,(Builtin.zeroCells z.cells m).size=m * sz:=fun m=>by simp [Builtin.zeroCells,hzs]
 have hgc:∀ need old,need≤grownCap w.toWorld need old e:=fun need old=>by
  unfold grownCap Question.cut;simp
 have hones:ones ys.flatten=true:=by
  simp only [ones,List.all_eq_true]
  intro u hu'
  obtain ⟨y,hy,huy⟩:=List.mem_flatten.1 hu'
  have:=(hg y hy).2
  simp only [ones,List.all_eq_true] at this
  exact this u huy
 have hf0:∀ A:Option Addr,ys.length=0→(Builtin.firstCells i.size 0 (.slice A 0 cx)).run P w.toWorld=.ok #[] w.toWorld:=fun A _=>by
  cases A<;>simp [Builtin.firstCells,loadCells,loadCellsFrom]
 rw [hby] at h
 unfold jeI at h
 split at h
 ·-- a row of one's own
  rename_i d m sz' n
  split at h
  rotate_left
  ·exact h.elim
  rename_i e' sz2 css hd
  obtain ⟨⟨rfl,rfl,rfl,rfl,hnm',hroom,h63⟩,hk⟩:=h
  have hk:=jfr hk
  have hok:=(hw.rows d _ hd).1
  have hlen':∀ cs∈jcr css n ys,cs.length=sz2:=fun cs h=>by
   unfold jcr at h
   rcases List.mem_append.1 h with h | h
   ·rcases List.mem_append.1 h with h | h
    ·exact hok.2 _ (List.mem_of_mem_take h)
    ·exact (hg cs h).1
   ·exact hok.2 _ (List.mem_of_mem_drop h)
  have hcfl:=jaf hok.2
  have hl2:=jfP ys hnm'
  cases hra with
  | rs0 _ _ _ A hnm=>
   -- nowhere yet
   obtain ⟨_,z',hz',hrow⟩:=hw.rows d _ hd
   have:z'=.nil:=by have hz':w.nm d css.length=some z':=hz';rw [hnm] at hz';cases hz';rfl
   subst this
   obtain ⟨e2,sz3,hrow⟩:=hrow
   cases hrow
   simp only [jcr,List.take_nil,List.drop_nil,List.append_nil,List.nil_append,List.length_nil,Nat.zero_add,Nat.zero_max] at hk hl2
   by_cases hy:ys.length=0
   ·have:ys=[]:=List.length_eq_zero_iff.1 hy
    subst this
    refine ⟨w,_,_,.slice A 0 0,?_,hk,?_,.rs0 _ _ _ _ hnm,?_⟩
    ·cases A<;>simp [Builtin.append_,run_underlying hu,sizeOf,typeInfo,hi,Builtin.lenOf,hf0,storeCells]
    ·refine { hw with rows:=fun j r hj=>?_,dom:=fun j q z hz=>?_ }
     ·rw [Hp.get_put] at hj
      split at hj
      ·rename_i e;subst e;exact hw.rows j r (by rw [hd];exact hj)
      ·exact hw.rows j r hj
     ·rw [Hp.get_put]
      split
      ·rename_i e;subst e;obtain ⟨r,g1,g2⟩:=hw.dom j q z hz;rw [hd] at g1;cases g1;exact ⟨_,rfl,g2⟩
      ·exact hw.dom j q z hz
    ·exact { Ext.refl w H with base:=rfl }
   ·obtain ⟨ad,rfl,hcell⟩:=haddr (by omega)
    obtain ⟨w',e1,g1,g2,g3⟩:=jcb (i:=d) (e:=e') (cap:=grownCap w.toWorld ys.length 0 e') (css:=ys) (rest:=Builtin.zeroCells z.cells (grownCap w.toWorld ys.length 0 e' - ys.length)) hw h0 (fun y hy=>(hg y hy).1) hnews (hgc _ _) (hzc _) (hw.later hd (by show ([]:List (List AV)).length < _;simp;omega)) (fun r hr=>by rw [hd] at hr;cases hr;exact Nat.zero_le _)
    refine ⟨w',_,_,_,?_,hk,by simpa using g1,by simpa using g3,by simpa using g2⟩
    rw [e1]
    cases A with
    | none=>
     have:=run_append_nil w.toWorld t ty e' i z hu hi hiz ad ys.length cx news (by rw [hisz];exact hnl) hcell (by omega) (by simp at h63;omega) (by simp at hroom;omega)
     exact this
    | some b=>
     have:=run_append_grow (P:=P) w.toWorld t ty e' i z hu hi hiz b 0 0 [] (by simp) (fun j v h=>by simp at h) ad ys.length cx news (by rw [hisz];exact hnl) hcell (by omega) (by simp at h63;simp;omega) (by
      rw [Nat.zero_add,nextslicecap_zero (by omega)];simp at hroom;omega)
     simpa using this
  | rs _ _ _ _ b t' cap hnm hct hle hs0=>
   obtain ⟨_,z',hz',hrow⟩:=hw.rows d _ hd
   have:z'=.at b t' sz2:=by have hz':w.nm d css.length=some z':=hz';rw [hnm] at hz';cases hz';rfl
   subst this
   obtain ⟨_,cur,hh,⟨hcs,hcl⟩,hcr⟩:=hrow
   have hh:w.heap[b]?=some (.cells cur e' (0,0)):=hh
   have hcl:css.flatten.length≤t':=hcl
   have hcap:css.length≤cap:=by
    rw [hcfl,← hct] at hcl
    exact Nat.le_of_mul_le_mul_right hcl h0
   have htk:(css.take n).flatten.length=n * sz2:=by rw [jaf fun c hc=>hok.2 c (List.mem_of_mem_take hc),List.length_take,Nat.min_eq_left hnm']
   have htke:(css.take n).flatten=css.flatten.take (n * sz2):=by
    have:css.flatten=(css.take n).flatten++(css.drop n).flatten:=by rw [← List.flatten_append,List.take_append_drop]
    rw [this,← htk,List.take_left']
    rfl
   by_cases hfit:n+ys.length≤cap
   ·-- in place
    have hfit':n * sz2+ys.flatten.length≤t':=by
     rw [hfl,← Nat.add_mul,← hct];exact Nat.mul_le_mul_right _ hfit
    obtain ⟨w',hrun,g1,g2,g3⟩:=jaH (P:=P) (off:=n * sz2) (r':=.vec e' sz2 (jcr css n ys)) hw hd hnm hnews hones hfit' rfl rfl rfl rfl (by show css.length≤(jcr css n ys).length;rw [hl2];omega) ⟨h0,hlen'⟩ (by show (jcr css n ys).flatten.length≤t';rw [jaf hlen',hl2,← hct];exact Nat.mul_le_mul_right _ (Nat.max_le.2 ⟨hcap,hfit⟩)) (fun p u hp=>by
     have hp:(jcr css n ys).flatten[p]?=some u:=hp
     unfold jcr at hp
     rw [List.flatten_append,List.flatten_append] at hp
     show if _ then _ else css.flatten[p]?=some u
     rcases Nat.lt_or_ge p (n * sz2) with h | h
     ·rw [if_neg (by omega)]
      rw [List.getElem?_append_left (by simp only [List.length_append];omega),List.getElem?_append_left (by omega),htke,List.getElem?_take,if_pos h] at hp
      exact hp
     ·rcases Nat.lt_or_ge p (n * sz2+ys.flatten.length) with h' | h'
      ·rw [if_pos ⟨h,h'⟩]
       rw [List.getElem?_append_left (by simp only [List.length_append];omega),List.getElem?_append_right (by omega),htk] at hp
       exact hp
      ·rw [if_neg (by omega)]
       rw [List.getElem?_append_right (by simp only [List.length_append];omega)] at hp
       have e2:css.flatten=(css.take (n+ys.length)).flatten++(css.drop (n+ys.length)).flatten:=by rw [← List.flatten_append,List.take_append_drop]
       have hlt:=(List.getElem?_eq_some_iff.1 hp).1
       have hnk:n+ys.length≤css.length:=by
        rcases Nat.lt_or_ge css.length (n+ys.length) with h6 | h6
        ·rw [List.drop_eq_nil_of_le (by omega)] at hlt;simp at hlt
        ·exact h6
       have e3:(css.take (n+ys.length)).flatten.length=n * sz2+ys.flatten.length:=by rw [jaf fun c hc=>hok.2 c (List.mem_of_mem_take hc),List.length_take,Nat.min_eq_left hnk,hfl,Nat.add_mul]
       rw [e2,List.getElem?_append_right (by omega),e3]
       simp only [List.length_append,htk] at hp
       exact hp)
    refine ⟨w',_,_,.slice (some ⟨b,0,none⟩) (n+ys.length) cap,?_,hk,g1,?_,g2⟩
    ·have hf:(Builtin.firstCells i.size ys.length (.slice A ys.length cx)).run P w.toWorld=.ok news.toArray w.toWorld:=by
      by_cases h0:ys.length=0
      ·have:news=[]:=by have:=hnl;rw [h0,Nat.zero_mul] at this;simpa using this
       subst this
       rw [h0]
       cases A<;>simp [Builtin.firstCells,loadCells,loadCellsFrom]
      ·obtain ⟨ad,rfl,hcell⟩:=haddr (by omega)
       exact run_firstCells_some (P:=P) w.toWorld i.size ys.length ad ys.length cx news (by rw [hisz];exact hnl) hcell
     have hadd:(⟨b,0,none⟩:Addr).add (n * sz2)=⟨b,n * sz2,none⟩:=by rw [jak];simp
     rw [hisz] at hf
     simp [Builtin.append_,run_underlying hu,sizeOf,typeInfo,hi,Builtin.lenOf,hfit,hf,hisz,hadd,hrun]
    ·have g3:w'.nm d (max css.length (n+ys.length))=some (.at b t' sz2):=by rw [← hl2];exact g3
     exact .rs d _ sz2 _ b t' cap g3 hct hfit hs0
   ·-- a new row
    have hpos:0 < ys.length:=by omega
    obtain ⟨ad,rfl,hcell⟩:=haddr hpos
    have hov:jcr css n ys=css.take n++ys:=by unfold jcr;rw [List.drop_eq_nil_of_le (by omega),List.append_nil]
    have hmx:max css.length (n+ys.length)=n+ys.length:=Nat.max_eq_right (by omega)
    rw [hov] at hk hlen' hl2
    rw [hmx] at hk hl2
    have hold:RelL w (css.take n).flatten (cur.toList.take (n * sz2)):=by
     refine ⟨by simp only [List.length_take,Array.length_toList];have:=Nat.mul_le_mul_right sz2 hle;omega,fun k a v ha' hv=>?_⟩
     rw [List.getElem?_take] at hv
     split at hv
     ·rename_i hkn
      rw [htke,List.getElem?_take,if_pos hkn] at ha'
      exact hcr k a v ha' (by simpa using hv)
     ·cases hv
    have hall:=hold.append hnews
    rw [← List.flatten_append] at hall
    obtain ⟨w',e1,g1,g2,g3⟩:=jcb (i:=d) (e:=e') (cap:=grownCap w.toWorld (n+ys.length) cap e') (css:=css.take n++ys) (rest:=Builtin.zeroCells z.cells (grownCap w.toWorld (n+ys.length) cap e' - (n+ys.length))) hw h0 hlen' hall (by rw [hl2];exact hgc _ _) (by rw [hl2];exact hzc _) (hw.later hd (by show css.length < _;rw [hl2];omega)) (fun r hr=>by rw [hd] at hr;cases hr;show css.length≤_;rw [hl2];omega)
    rw [hl2] at g3
    refine ⟨w',_,_,_,?_,hk,g1,g3,g2⟩
    rw [e1]
    have:=run_append_grow (P:=P) w.toWorld t ty e' i z hu hi hiz ⟨b,0,none⟩ n cap (cur.toList.take (n * sz2)) (by rw [← hold.1,htk,hisz]) (fun k v hv=>by
     rw [List.getElem?_take] at hv
     split at hv
     ·rw [jak,jcn b _ cur e' (0,0) hh,Nat.zero_add];simpa using hv
     ·cases hv) ad ys.length cx news (by rw [hisz];exact hnl) hcell (by omega) (by omega) (growslice_fits (by omega) (by omega))
    rw [this]
    congr 3
    apply Array.ext'
    simp
 ·-- nothing
  obtain ⟨⟨hroom,h63⟩,d,hd,hk⟩:=h
  have:=jab hra
  subst this
  by_cases hy:ys.length=0
  ·have:ys=[]:=List.length_eq_zero_iff.1 hy
   subst this
   obtain ⟨g1,g2⟩:=jfe hw hd e h0
   refine ⟨_,_,_,.slice none 0 0,?_,hk,g1,.rs0 _ _ _ _ (NW.name_same _ _ _ _),g2⟩
   have:(Builtin.append_ #[t,t] ty #[.slice none 0 0,.slice A 0 cx]).run P w.toWorld=.ok (.slice none 0 0) w.toWorld:=by
    simp [Builtin.append_,run_underlying hu,sizeOf,typeInfo,hi,Builtin.lenOf,hf0,storeCells]
   exact this
  ·obtain ⟨ad,rfl,hcell⟩:=haddr (by omega)
   obtain ⟨w',e1,g1,g2,g3⟩:=jcb (i:=d) (e:=e) (cap:=grownCap w.toWorld ys.length 0 e) (css:=ys) (rest:=Builtin.zeroCells z.cells (grownCap w.toWorld ys.length 0 e - ys.length)) hw h0 (fun y hy=>(hg y hy).1) hnews (hgc _ _) (hzc _) (hw.none hd _) (fun r hr=>by rw [hd] at hr;cases hr)
   refine ⟨w',_,_,_,?_,hk,g1,g3,g2⟩
   rw [e1]
   exact run_append_nil w.toWorld t ty e i z hu hi hiz ad ys.length cx news (by rw [hisz];exact hnl) hcell (by omega) (by omega) (by omega)
 ·-- a literal
  rename_i sz' css _
  obtain ⟨⟨rfl,⟨hroom,h63⟩,hor⟩,d,hd,hk⟩:=h
  have hl2:(css++ys).length=css.length+ys.length:=List.length_append
  cases hra with
  | sl0 _ _ A' c' hx=>
   have hc0:=hx rfl
   subst hc0
   by_cases hy:ys.length=0
   ·have:ys=[]:=List.length_eq_zero_iff.1 hy
    subst this
    obtain ⟨g1,g2⟩:=jfe hw hd e h0
    refine ⟨_,_,_,.slice A' 0 0,?_,hk,g1,.rs0 _ _ _ _ (NW.name_same _ _ _ _),g2⟩
    have:(Builtin.append_ #[t,t] ty #[.slice A' 0 0,.slice A 0 cx]).run P w.toWorld=.ok (.slice A' 0 0) w.toWorld:=by
     cases A'<;>simp [Builtin.append_,run_underlying hu,sizeOf,typeInfo,hi,Builtin.lenOf,hf0,storeCells]
    exact this
   ·obtain ⟨ad,rfl,hcell⟩:=haddr (by omega)
    obtain ⟨w',e1,g1,g2,g3⟩:=jcb (i:=d) (e:=e) (cap:=grownCap w.toWorld ys.length 0 e) (css:=ys) (rest:=Builtin.zeroCells z.cells (grownCap w.toWorld ys.length 0 e - ys.length)) hw h0 (fun y hy=>(hg y hy).1) hnews (hgc _ _) (hzc _) (hw.none hd _) (fun r hr=>by rw [hd] at hr;cases hr)
    refine ⟨w',_,_,_,?_,hk,by simpa using g1,by simpa using g3,by simpa using g2⟩
    rw [e1]
    cases A' with
    | none=>exact run_append_nil w.toWorld t ty e i z hu hi hiz ad ys.length cx news (by rw [hisz];exact hnl) hcell (by omega) (by simp at h63;omega) (by simp at hroom;omega)
    | some b=>
     have:=run_append_grow (P:=P) w.toWorld t ty e i z hu hi hiz b 0 0 [] (by simp) (fun j v h=>by simp at h) ad ys.length cx news (by rw [hisz];exact hnl) hcell (by omega) (by simp at h63;simp;omega) (by
      rw [Nat.zero_add,nextslicecap_zero (by omega)];simp at hroom;omega)
     simpa using this
  | sl _ _ _ b c' vs hn hc' hx hsz hb hH hcell' hr=>
   have hlen':∀ cs∈css++ys,cs.length=sz':=fun cs h=>by
    rcases List.mem_append.1 h with h | h
    ·exact hsz _ h
    ·exact (hg cs h).1
   obtain ⟨hcn,cur,el,hpl⟩:=hx rfl
   subst hcn
   have hcfl:=jaf hsz
   have hold:RelL w css.flatten ((List.range (css.length * sz')).map vs):=by
    refine ⟨by simp [hcfl],fun k a v ha' hv=>?_⟩
    have hk:k < css.length * sz':=by have:=(List.getElem?_eq_some_iff.1 ha').1;omega
    obtain ⟨i',j,hi',hj,rfl⟩:=jbf hk
    rw [jar hsz hi' hj] at ha'
    simp only [List.getElem?_map,List.getElem?_range hk,Option.map_some,Option.some.injEq] at hv
    subst hv
    exact (hr i' j a hi' ha').dress
   by_cases hy:ys.length=0
   ·
    omega
   ·obtain ⟨ad,rfl,hcell⟩:=haddr (by omega)
    have hall:=hold.append hnews
    rw [← List.flatten_append] at hall
    obtain ⟨w',e1,g1,g2,g3⟩:=jcb (i:=d) (e:=e) (cap:=grownCap w.toWorld (css.length+ys.length) css.length e) (css:=css++ys) (rest:=Builtin.zeroCells z.cells (grownCap w.toWorld (css.length+ys.length) css.length e - (css.length+ys.length))) hw h0 hlen' hall (by rw [hl2];exact hgc _ _) (by rw [hl2];exact hzc _) (hw.none hd _) (fun r hr=>by rw [hd] at hr;cases hr)
    rw [hl2] at g3
    refine ⟨w',_,_,_,?_,hk,g1,g3,g2⟩
    rw [e1]
    have:=run_append_grow (P:=P) w.toWorld t ty e i z hu hi hiz b css.length css.length ((List.range (css.length * sz')).map vs) (by rw [← hold.1,hcfl,hisz]) (fun k v hv=>by
     have hk:k < css.length * sz':=by have:=(List.getElem?_eq_some_iff.1 hv).1;simpa using this
     obtain ⟨i',j,hi',hj,rfl⟩:=jbf hk
     simp only [List.getElem?_map,List.getElem?_range hk,Option.map_some,Option.some.injEq] at hv
     subst hv
     exact hcell' i' j hi' hj) ad ys.length cx news (by rw [hisz];exact hnl) hcell (by omega) (by omega) (growslice_fits (by omega) (by omega))
    rw [this]
    congr 3
    apply Array.ext'
    simp
 ·exact h.elim
end
section
variable {P:Program} {H:Hp}
theorem jeC {w:NW} (l:List Value):RelL w (l.map .raw) l:=⟨by simp,fun i a v ha hv=>by
 simp only [List.getElem?_map,Option.map_eq_some_iff] at ha
 obtain ⟨x,hx,rfl⟩:=ha
 rw [hx] at hv;cases hv;exact .raw _⟩
theorem jh2 {a:AV} {v:Value} {w:NW} {f:FuncId} {first captured:List AV} (h:RelV w a v) (hf:jlK a=some (f,first,captured)):∃ x y:Array Value,v=.func (.func f) x y∧RelL w first x.toList∧RelL w captured y.toList:=by
 unfold jlK at hf
 split at hf
 ·rename_i f x y
  simp only [Option.some.injEq,Prod.mk.injEq] at hf
  obtain ⟨rfl,rfl,rfl⟩:=hf
  exact ⟨x,y,jab h,jeC _,jeC _⟩
 ·simp only [Option.some.injEq,Prod.mk.injEq] at hf
  obtain ⟨rfl,rfl,rfl⟩:=hf
  cases h with
  | clo _ _ vs hl hr=>exact ⟨#[],vs,rfl,⟨rfl,fun i a v h=>by simp at h⟩,⟨by simpa using hl,fun i a v h1 h2=>hr i a v h1 (by simpa using h2)⟩⟩
 ·simp only [Option.some.injEq,Prod.mk.injEq] at hf
  obtain ⟨rfl,rfl,rfl⟩:=hf
  cases h with
  | bd _ _ vs hl hr=>exact ⟨vs,#[],rfl,⟨by simpa using hl,fun i a v h1 h2=>hr i a v h1 (by simpa using h2)⟩,⟨rfl,fun i a v h=>by simp at h⟩⟩
 ·cases hf
theorem jcF {w:NW} {l:List AV} {vs:List Value} (h:RelL w l vs):RelF w l vs.toArray:=⟨by simpa using h.1,fun i a v ha hv=>h.2 i a v ha (by simpa using hv)⟩
theorem jdT {f : FuncId} (h : jae P f = true) : ∃ fn, P.funcs[f]? = some fn ∧ fn.body.isSome = true ∧ (fn.name == "runtime.NumGoroutine") = false := by
 unfold jae at h
 split at h
 ·rename_i fn hf
  simp only [Bool.and_eq_true,Bool.not_eq_true'] at h
  exact ⟨fn,hf,h.1,h.2⟩
 ·cases h
theorem jgH {f:FuncId} {xs:Array Value} {l:List AV} {R:AV→Hp→Prop} {o:Oper} (h:(jae P f=true∧HCalls P f l H R)∨jgw P f l H R) {w:NW} {a:Act} {next:Act→World→Prop} {Q:Exit→Act→World→Prop} (hcf:(execOp a.eval o).run P w.toWorld=(callFunc f xs).run P w.toWorld) (hw:RelW w H) (hrel:RelF w l xs)
  (hn:∀ (v:Value) (r:AV) (w':NW) (H':Hp),R r H'→RelW w' H'→RelV w' r v→Ext w H w' H'→next (a.put o.dst v) w'.toWorld):Oper.wp P o a w.toWorld next Q:=by
 rcases h with ⟨hcall,hc⟩ | hx'
 ·obtain ⟨fn,hfn,hb,hname⟩:=jdT hcall
  have hrun:(execOp a.eval o).run P w.toWorld=.ok (.enter f xs) w.toWorld:=by
   have hb':fn.body.isNone=false:=by cases hbb:fn.body<;>simp_all
   rw [hcf]
   simp only [callFunc,Sem.run_bind,run_program,Result.andThen_ok,hfn,hname,hb',Bool.false_eq_true,if_false,Sem.run_pure]
  simp only [Oper.wp,hrun,Oper.upon_enter]
  refine (hc w _ hw hrel).mono ?_
  rintro e W ⟨v,r,H',w',rfl,rfl,hR,g1,g2,g3⟩
  exact hn v r w' H' hR g1 g2 g3
 ·obtain ⟨v,w',r,H',hrun,hR,g1,g2,g3⟩:=hx' w _ hw hrel
  rw [← hcf] at hrun
  simp only [Oper.wp,hrun,Oper.upon]
  exact hn v r w' H' hR g1 g2 g3
theorem jbc {f:AV} {args:List AV} {R:AV→Hp→Prop} {fo:Operand} {as:Array Operand} {ts:Array TypeId} {dst:Option Tmp} {ty:TypeId} {pos:String} {after:Array Edge} {guard:Option (Nat×Bool)} {ev:Operand→AV} (he1:ev fo=f) (he2:as.toList.map ev=args)
  (h:jaU P f args H R) {w:NW} {a:Act} {next:Act→World→Prop} {Q:Exit→Act→World→Prop} (hw:RelW w H) (hr:∀ x,RelV w (ev x) (a.eval x))
  (hn:∀ (v:Value) (r:AV) (w':NW) (H':Hp),R r H'→RelW w' H'→RelV w' r v→Ext w H w' H'→next (a.put dst v) w'.toWorld):Oper.wp P ⟨dst,.call ⟨.value fo,as,ts⟩,ty,pos,after,guard⟩ a w.toWorld next Q:=by
 unfold jaU at h
 split at h
 ·rename_i f first captured hf
  obtain ⟨x,y,hv,hx,hy⟩:=jh2 (he1 ▸ hr fo) hf
  have hargs:as.map a.eval=(as.toList.map a.eval).toArray:=by rw [← Array.toList_map,Array.toArray_toList]
  refine jgH h ?_ hw (jcF ((hx.append (he2 ▸ jbM hr as.toList)).append hy)) hn
  have e:x++(as.toList.map a.eval).toArray++y=(x.toList++as.toList.map a.eval++y.toList).toArray:=by
   apply Array.ext'
   simp
  simp only [execOp,resolve,hv,Deferred.ofValue,pure_bind,invoke,hargs,e]
 ·exact h.elim
theorem jhd {t:TypeId} {m:String} {f:FuncId} (h:je9 P t m=some f) (v:Value) (W:World):(method (P.types.size+Made.depth) t v m).run P W=.ok (f,v) W:=by
 unfold je9 at h
 split at h
 rotate_left
 ·cases h
 rename_i ti e ht hu
 split at h
 rotate_left
 ·cases h
 rename_i r hr
 split at h
 rotate_left
 ·cases h
 rename_i hp
 split at h
 rotate_left
 ·cases h
 rename_i g hf
 cases h
 have hpl:r.path.toList=[]:=by
  have:=Array.isEmpty_iff.1 hp
  rw [this]
 obtain ⟨n,hn⟩:∃ n,P.types.size+Made.depth=n+1:=⟨P.types.size+Made.depth - 1,by have hd:=(by decide:Made.depth≠0);omega⟩
 rw [hn]
 unfold method
 simp only [Sem.run_bind,run_typeInfo W ht,Result.andThen_ok,hr,hpl,follow,Sem.run_pure,hf,receiverAt,run_underlying hu,Place.get]
theorem jc7 {x:AV} {m:String} {args:List AV} {R:AV→Hp→Prop} {fo:Operand} {as:Array Operand} {ts:Array TypeId} {dst:Option Tmp} {ty:TypeId} {pos:String} {after:Array Edge} {guard:Option (Nat×Bool)} {ev:Operand→AV} (he1:ev fo=x) (he2:as.toList.map ev=args)
  (h:jb3 P x m args H R) {w:NW} {a:Act} {next:Act→World→Prop} {Q:Exit→Act→World→Prop} (hw:RelW w H) (hr:∀ x,RelV w (ev x) (a.eval x))
  (hn:∀ (v:Value) (r:AV) (w':NW) (H':Hp),R r H'→RelW w' H'→RelV w' r v→Ext w H w' H'→next (a.put dst v) w'.toWorld):Oper.wp P ⟨dst,.call ⟨.invoke fo m,as,ts⟩,ty,pos,after,guard⟩ a w.toWorld next Q:=by
 unfold jb3 at h
 split at h
 rotate_left
 ·exact h.elim
 rename_i t b
 split at h
 rotate_left
 ·exact h.elim
 rename_i f hf
 have hx:=hr fo
 rw [he1] at hx
 generalize hv:a.eval fo=v at hx
 cases hx with
 | ifc _ _ u hu=>
  have hargs:as.map a.eval=(as.toList.map a.eval).toArray:=by rw [← Array.toList_map,Array.toArray_toList]
  have h':(jae P f=true∧HCalls P f (b::args) H R)∨jgw P f (b::args) H R:=by
   have:jaU P (.raw (.func (.func f) #[] #[])) (b::args) H R=((jae P f=true∧HCalls P f (b::args) H R)∨jgw P f (b::args) H R):=by
    show ((jae P f=true∧HCalls P f ([]++(b::args)++[]) H R)∨jgw P f ([]++(b::args)++[]) H R)=_
    rw [List.nil_append,List.append_nil]
   rw [← this];exact h
  have hl:RelL w (b::args) (u::as.toList.map a.eval):=RelL.append (a:=[b]) (x:=[u]) ⟨rfl,fun i p q hp hq=>by
   match i with
   | 0=>cases hp;cases hq;exact hu
   | i+1=>simp at hp⟩ (he2 ▸ jbM hr as.toList)
  refine jgH h' (xs:=(u::as.toList.map a.eval).toArray) ?_ hw (jcF hl) hn
  have e0:(#[Value.iface t u]++as.map a.eval)[0]?=some (.iface t u):=by rw [Array.getElem?_append_left (by show 0 < 1;decide)];rfl
  have e1:(#[Value.iface t u]++as.map a.eval).extract 1 (#[Value.iface t u]++as.map a.eval).size=as.map a.eval:=by simp
  have e2:#[u]++as.map a.eval=(u::as.toList.map a.eval).toArray:=by
   apply Array.ext';simp
  simp only [execOp,resolve,pure_bind,invoke,hv,e0,e1,callMethod,Sem.run_bind,run_program,Result.andThen_ok,jhd hf,e2]
end
@[congr] theorem jjJ {P:Program} {f f':AV} {args args':List AV} {H:Hp} {K:AV→Hp→Prop} (h1:f=f') (h2:args=args'):jaU P f args H K=jaU P f' args' H K:=by rw [h1,h2]
@[congr] theorem jiX {P:Program} {H:Hp} {t:TypeId} {K:AV→Hp→Prop}:ja5 P H t K=ja5 P H t K:=rfl
@[congr] theorem jkk {H:Hp} {t:TypeId} {x x':AV} {K:AV→Hp→Prop} (h:x=x'):jiY H t x K=jiY H t x' K:=by rw [h]
@[congr] theorem jhE {P:Program} {t t':TypeId} {a a' x x':AV} {H:Hp} {K:AV→Hp→Prop} (h1:a=a') (h2:x=x'):jbE P t t' a x H K=jbE P t t' a' x' H K:=by rw [h1,h2]
@[congr] theorem jgv {P:Program} {b:Builtin} {ts ts':List TypeId} {as as':List AV} {H:Hp} {K:AV→Hp→Prop} (h1:ts=ts') (h2:as=as'):jaL P b ts as H K=jaL P b ts' as' H K:=by rw [h1,h2]
def ja4 (ops:Array Oper) (F:List AV) (j:Nat) (want:Bool):Option Bool:=match (ops[j]?).bind (·.dst) with
 | some d=>match F[d]? with
  | some (.raw (.bool b))=>some (b == want)
  | some (.gd g (.raw (.bool b)))=>some (g && (b == want))
  | _=>none
 | none=>none
def evG (F:List AV) (x:Operand):AV:=(unG (evA F x)).2
def okG (F:List AV) (o:Op):Bool:=o.operands.toList.all fun x=>(unG (evA F x)).1
def jad:Op→Bool
 | .call { callee:=.invoke ..,.. }=>true
 | .binOp .eql ..=>true
 | .binOp .neq ..=>true
 | o=>jac o
def vcG (P:Program) (F:List AV) (H:Hp) (g:Bool) (K:AV→Prop):Op→Prop
 | .call { callee:=.value f,args,argTypes }=>∃ r,(g=true→okG F (.call ⟨.value f,args,argTypes⟩)=true∧jaU P (evG F f) (args.toList.map (evG F)) H fun r' H'=>r'=r∧H'=H)∧K (.gd g r)
 | .call { callee:=.invoke f m,args,argTypes }=>∃ r,(g=true→okG F (.call ⟨.invoke f m,args,argTypes⟩)=true∧jb3 P (evG F f) m (args.toList.map (evG F)) H fun r' H'=>r'=r∧H'=H)∧K (.gd g r)
 | .pick c a b=>(g=true→(unG (evA F c)).1=true∧(jaT (evG F c) (evA F a) (evA F b)).1)∧K (.gd g (jaT (evG F c) (evA F a) (evA F b)).2)
 | o=>if jad o then (g=true→okG F o=true∧(vq P (evG F) H o).1)∧K (.gd g (vq P (evG F) H o).2) else False
def jan:Op→Bool
 | .call { callee:=.value _,.. }=>true
 | _=>false
def vcl (P:Program) (ops:Array Oper) (K:List AV→Hp→Prop):List Oper→List AV→Hp→Prop
 | [],F,H=>K F H
 | o::rest,F,H=>match o.guard with
  | none=>vc P (evA F) H o.type (fun r H'=>vcl P ops K rest (jaw F o.dst r) H') o.op
  | some (j,want)=>match ja4 ops F j want with
   | some b=>if jan o.op || jad o.op then vcG P F H b (fun r=>vcl P ops K rest (jaw F o.dst r) H) o.op
    else (b=true→vc P (evA F) H o.type (fun r H'=>vcl P ops K rest (jaw F o.dst r) H') o.op)∧(b=false→vcl P ops K rest (jaw F o.dst .any) H)
   | none=>False
section
variable {P:Program} {ops:Array Oper} {F:List AV} {H:Hp}
theorem jjP {o:Oper} {K:List AV→Hp→Prop} {ev:Operand→AV} (h:vc P ev H o.type (fun r H'=>K (jaw F o.dst r) H') o.op) {w:NW} {tm:Array Value} {Q:Exit→Act→World→Prop} {next:Act→World→Prop}
  (h1:RelW w H) (h2:RelF w F tm) (hr:∀ x,RelV w (ev x) ((Act.mk tm []).eval x))
  (hn:∀ tm' (w':NW) F' H',K F' H'→RelW w' H'→RelF w' F' tm'→Ext w H w' H'→next ⟨tm',[]⟩ w'.toWorld):o.wp P ⟨tm,[]⟩ w.toWorld next Q:=by
 have quiet:((vq P ev H o.op).1∧K (jaw F o.dst (vq P ev H o.op).2) H)→o.wp P ⟨tm,[]⟩ w.toWorld next Q:=fun hq=>by
  obtain ⟨v,hrun,hv⟩:=jcU o h1 hr hq.1
  simp only [Oper.wp,hrun,Oper.upon]
  rw [Act.put_eq]
  exact hn _ w _ H hq.2 h1 (h2.put o.dst hv []) (Ext.refl w H)
 have val:∀ {w':NW} {H':Hp} {r:AV} {v:Value},(execOp (Act.mk tm []).eval o).run P w.toWorld=.ok (.value v) w'.toWorld→K (jaw F o.dst r) H'→RelW w' H'→RelV w' r v→Ext w H w' H'→o.wp P ⟨tm,[]⟩ w.toWorld next Q:=fun {w' H' r v} hrun hk g1 g2 g3=>by
  simp only [Oper.wp,hrun,Oper.upon]
  rw [Act.put_eq]
  exact hn _ w' _ H' hk g1 ((h2.ext g3).put o.dst g2 []) g3
 have skip:∀ {w':NW} {H':Hp},(execOp (Act.mk tm []).eval o).run P w.toWorld=.ok .skip w'.toWorld→K (jaw F o.dst .any) H'→RelW w' H'→Ext w H w' H'→o.wp P ⟨tm,[]⟩ w.toWorld next Q:=fun {w' H'} hrun hk g1 g3=>by
  simp only [Oper.wp,hrun,Oper.upon]
  rw [Act.put_eq]
  exact hn _ w' _ H' hk g1 ((h2.ext g3).put o.dst (.any _) []) g3
 have other:jcK P o.op o.type ev H (fun r H'=>K (jaw F o.dst r) H')→o.wp P ⟨tm,[]⟩ w.toWorld next Q:=fun ho=>by
  obtain ⟨w',H',r,hk,g1,g2,g3⟩:=ho w (Act.mk tm []).eval o.dst o.pos o.after o.guard h1 (fun x _=>hr x)
  rcases g3 with ⟨v,hrun,hv⟩ | ⟨hrun,rfl⟩
  ·exact val hrun hk g1 hv g2
  ·exact skip hrun hk g1 g2
 obtain ⟨dst,op,ty,pos,after,guard⟩:=o
 have vrun:∀ {s:Sem Value} {v:Value} {W:World},s.run P w.toWorld=.ok v W→(do pure (Next.value (← s)):Sem Next).run P w.toWorld=.ok (.value v) W:=fun hs=>by simp [hs]
 cases op
 case box t x=>
  obtain ⟨ho,i,hi,hk⟩:=h
  obtain ⟨u,w',hrun,g0,g1,g2⟩:=jet (P:=P) (t:=t) h1 hi (hr x) ho
  exact val (vrun hrun) hk g1 g0 g2
 case alloc t=>
  simp only [vc,ja5] at h
  split at h
  ·rename_i zs hz
   obtain ⟨i,hi,hk⟩:=h
   obtain ⟨u,w',hrun,g0,g1,g2⟩:=jeY (P:=P) (t:=t) h1 hi hz
   exact val (vrun hrun) hk g1 g0 g2
  ·exact h.elim
 case store t a x=>
  simp only [vc,jcI] at h
  split at h
  ·rename_i i m k j n ha hk
   split at h
   ·rename_i r hb
    obtain ⟨⟨s1,s2,s3⟩,hk'⟩:=h
    have hva:=hr a
    rw [ha] at hva
    obtain ⟨w',hrun,g1,g2⟩:=jd9 (P:=P) h1 hva hb (hr x) s1 hk s2 s3
    refine skip ?_ hk' g1 g2
    simp only [execOp,Sem.run_bind,hrun,Result.andThen_ok,Sem.run_pure]
   ·exact h.elim
  ·exact h.elim
 case buildSlice t n parts=>
  have h':jft P H t n (parts.toList.map fun p=>(p.1,ev p.2)) (fun r H'=>K (jaw F dst r) H'):=h
  obtain ⟨w',H',r,v,hrun,hk,g1,g2,g3⟩:=jgq (P:=P) (parts:=parts.toList.map fun p=>(p.1,ev p.2)) (vparts:=parts.map fun p=>(p.1,(Act.mk tm []).eval p.2)) h1 (by simp) (fun i a v ha hv=>by
   simp only [List.getElem?_map,Option.map_eq_some_iff,Array.toList_map,Array.getElem?_toList] at ha hv
   obtain ⟨x,hx,rfl⟩:=ha
   obtain ⟨y,hy,rfl⟩:=hv
   rw [hx] at hy;cases hy;exact hr x.2) h'
  exact val (vrun hrun) hk g1 g2 g3
 case binOp op t x y t'=>
  cases op
  case eql=>
   obtain ⟨r,v,hrun,hk,hv⟩:=jcH (P:=P) (K:=fun r H'=>K (jaw F dst r) H') false t x y (hr x) (hr y) h
   exact val (vrun hrun) hk h1 hv (Ext.refl w H)
  case neq=>
   obtain ⟨r,v,hrun,hk,hv⟩:=jcH (P:=P) (K:=fun r H'=>K (jaw F dst r) H') true t x y (hr x) (hr y) h
   exact val (vrun hrun) hk h1 hv (Ext.refl w H)
  all_goals exact quiet h
 case call c=>
  obtain ⟨callee,args,argTypes⟩:=c
  cases callee
  case value f=>
   refine jbc rfl rfl h h1 hr fun v r w' H' hk g1 g2 g3=>?_
   rw [Act.put_eq]
   exact hn _ w' _ H' hk g1 ((h2.ext g3).put dst g2 []) g3
  case invoke r m=>
   refine jc7 rfl rfl h h1 hr fun v r w' H' hk g1 g2 g3=>?_
   rw [Act.put_eq]
   exact hn _ w' _ H' hk g1 ((h2.ext g3).put dst g2 []) g3
  case builtin b=>
   have hargs:args.map (Act.mk tm []).eval=(args.toList.map (Act.mk tm []).eval).toArray:=by rw [← Array.toList_map,Array.toArray_toList]
   have bvc:jaL P b argTypes.toList (args.toList.map ev) H (fun r H'=>K (jaw F dst r) H')→Oper.wp P ⟨dst,.call ⟨.builtin b,args,argTypes⟩,ty,pos,after,guard⟩ ⟨tm,[]⟩ w next Q:=fun hb=>by
    obtain ⟨w',H',r,v,hrun,hk,g1,g2,g3⟩:=hb w _ ty (args.map fun | .const _=>true | _=>false) h1 (jbM hr args.toList)
    refine val (w':=w') (v:=v) ?_ hk g1 g2 g3
    simp only [execOp,resolve,pure_bind,invoke,hargs]
    exact hrun
   cases b
   case append=>
    simp only [vc] at h
    split at h
    ·rename_i t t' a x ht ha
     obtain ⟨w',H',r,v,hrun,hk,g1,g2,g3⟩:=h w _ _ ty h1 (hr a) (hr x)
     refine val (w':=w') (v:=v) ?_ hk g1 g2 g3
     have e1:argTypes=#[t,t']:=by rw [← Array.toArray_toList (xs:=argTypes),ht]
     have e2:args=#[a,x]:=by rw [← Array.toArray_toList (xs:=args),ha]
     subst e1 e2
     simp only [execOp,resolve,pure_bind,invoke,builtin,Sem.run_bind]
     have:(#[a,x].map (Act.mk tm []).eval)=#[(Act.mk tm []).eval a,(Act.mk tm []).eval x]:=by simp
     rw [this,hrun]
     rfl
    ·exact h.elim
   case len=>exact quiet h
   case cap=>exact quiet h
   case max=>exact quiet h
   case min=>exact quiet h
   all_goals exact bvc h
 case move=>exact quiet h
 case assign=>exact quiet h
 case pick=>exact quiet h
 case nilCheck=>exact quiet h
 case unOp=>exact quiet h
 case load=>exact quiet h
 case fieldAddr=>exact quiet h
 case field=>exact quiet h
 case indexAddr=>exact quiet h
 case index=>exact quiet h
 case extract=>exact quiet h
 case slice=>exact quiet h
 case makeFunc=>exact quiet h
 case makeInterface=>exact quiet h
 case convert=>exact quiet h
 case build=>exact quiet h
 all_goals first | exact other h | exact (quiet h)
theorem jbR {o:Oper} {K:List AV→Hp→Prop} (hg:o.guard=none) (h:vc P (evA F) H o.type (fun r H'=>K (jaw F o.dst r) H') o.op):AOp P ops o F H K:=fun w tm Q next h1 h2 hn=>by
 unfold jeQ
 rw [if_pos (by simp [Region.wanted,hg])]
 exact .inl (jjP h h1 h2 (fun x=>h2.eval [] x) hn)
theorem je6 {j:Nat} {want b:Bool} (h:ja4 ops F j want=some b) {w:NW} {tm:Array Value} (h2:RelF w F tm):(yielded ops tm j == some want)=b:=by
 unfold ja4 at h
 split at h
 ·rename_i d hd
  split at h<;>try cases h
  ·rename_i b' hF
   have hlt:d < tm.size:=by rw [← h2.1];exact (List.getElem?_eq_some_iff.1 hF).1
   have:=jab (h2.2 d _ _ hF (Array.getElem?_eq_getElem hlt))
   unfold yielded
   rw [hd,Option.bind_some,Array.getElem?_eq_getElem hlt,this]
   cases b'<;>cases want<;>rfl
  ·rename_i g b' hF
   have hlt:d < tm.size:=by rw [← h2.1];exact (List.getElem?_eq_some_iff.1 hF).1
   have hr:=h2.2 d _ _ hF (Array.getElem?_eq_getElem hlt)
   unfold yielded
   rw [hd,Option.bind_some,Array.getElem?_eq_getElem hlt]
   cases hr with
   | gd _ _ _ hh hu=>cases g with
    | true=>
     have:=jab (hh rfl)
     rw [this]
     cases b'<;>cases want<;>rfl
    | false=>rw [hu rfl];rfl
 ·cases h
theorem je3 {w:NW} {tm:Array Value} (h2:RelF w F tm) (x:Operand) (ok:(unG (evA F x)).1=true):RelV w (evG F x) ((Act.mk tm []).eval x):=jdg (h2.eval [] x) ok
def evO (F:List AV) (x:Operand):AV:=if (unG (evA F x)).1=true then evG F x else .any
theorem jbq {f g:Operand→AV} {o:Option Operand} (h:∀ x∈o.toList,f x=g x):o.map f=o.map g:=by
 cases o with
 | none=>rfl
 | some x=>simp [h x (by simp)]
theorem jbr {ev ev':Operand→AV} (o:Op) (h:∀ x∈o.operands.toList,ev x=ev' x):vq P ev H o=vq P ev' H o:=by
 cases o
 case call c=>
  obtain ⟨callee,args,ts⟩:=c
  cases callee
  case builtin b=>
   simp only [vq]
   rw [List.map_congr_left (fun x hx=>h x (by simpa [Op.operands,Call.operands] using hx))]
  all_goals rfl
 case slice t a lo hi mx=>
  simp only [Op.operands] at h
  simp only [vq]
  rw [h a (by simp),jbq (o:=lo) (fun x hx=>h x (by simp at hx ⊢;simp [hx])),jbq (o:=hi) (fun x hx=>h x (by simp at hx ⊢;simp [hx])),jbq (o:=mx) (fun x hx=>h x (by simp at hx ⊢;simp [hx]))]
 case makeFunc fn a b=>
  simp only [Op.operands] at h
  simp only [vq]
  rw [List.map_congr_left (l:=a.toList) (fun x hx=>h x (by simp at hx ⊢;simp [hx])),List.map_congr_left (l:=b.toList) (fun x hx=>h x (by simp at hx ⊢;simp [hx]))]
 case build t ps=>
  simp only [Op.operands] at h
  simp only [vq]
  rw [List.map_congr_left (g:=fun p=>(p.1,ev' p.2)) (fun x hx=>by rw [h x.2 (by simp at hx ⊢;exact ⟨_,hx⟩)])]
 all_goals first
  | rfl
  | (simp only [Op.operands] at h;simp only [vq];(repeat rw [h _ (by simp)]))
theorem jbx {w:NW} {tm:Array Value} (h2:RelF w F tm) (x:Operand):RelV w (evO F x) ((Act.mk tm []).eval x):=by
 unfold evO
 split
 ·rename_i h;exact je3 h2 x h
 ·exact .any _
theorem jbU {o:Op} (h:okG F o=true):∀ x∈o.operands.toList,evO F x=evG F x:=fun x hx=>by
 unfold evO
 rw [if_pos]
 simp only [okG,List.all_eq_true] at h
 exact h x hx
theorem jay {o:Oper} {j:Nat} {want b:Bool} {K:List AV→Hp→Prop} (hg:o.guard=some (j,want)) (hb:ja4 ops F j want=some b)
  (ht:b=true→∀ w tm (Q:Exit→Act→World→Prop) (next:Act→World→Prop),RelW w H→RelF w F tm→(∀ tm' w' F' H',K F' H'→RelW w' H'→RelF w' F' tm'→Ext w H w' H'→next ⟨tm',[]⟩ w')→o.wp P ⟨tm,[]⟩ w.toWorld next Q)
  (hf:b=false→∃ r,(∀ w:NW,RelV w r undef)∧K (jaw F o.dst r) H):AOp P ops o F H K:=fun w tm Q next h1 h2 hn=>by
 have hy:=je6 hb h2
 unfold jeQ
 have hw:Region.wanted o (yielded ops (Act.mk tm []).tmps)=b:=by
  unfold Region.wanted
  rw [hg]
  exact hy
 cases b with
 | true=>
  rw [if_pos hw]
  exact .inl (ht rfl w tm Q next h1 h2 hn)
 | false=>
  rw [if_neg (by rw [hw];exact Bool.false_ne_true)]
  obtain ⟨r,hr,hk⟩:=hf rfl
  rw [Act.put_eq]
  exact hn _ w _ H hk h1 (h2.put o.dst (hr w) []) (Ext.refl w H)
theorem jbV {r:AV} {g:Bool} (hg:g=false) (w:NW):RelV w (.gd g r) undef:=.gd _ _ _ (fun h=>by rw [hg] at h;cases h) (fun _=>rfl)
theorem jcA {w:NW} {r:AV} {v:Value} {g:Bool} (hg:g=true) (h:RelV w r v):RelV w (.gd g r) v:=.gd _ _ _ (fun _=>h) (fun h=>by rw [hg] at h;cases h)
theorem jbD {K:List AV→Hp→Prop}:∀ (l:List Oper) (F:List AV) (H:Hp),vcl P ops K l F H→jj1 P ops K l F H
 | [],F,H,h=>jfA h
 | o::rest,F,H,h=>by
  refine jek ?_
  simp only [vcl] at h
  split at h
  ·rename_i hg
   exact (jbR (K:=fun F' H'=>vcl P ops K rest F' H') hg h).mono fun F' H' hk=>jbD rest F' H' hk
  ·rename_i j want hg
   split at h
   ·rename_i b hb
    split at h
    ·refine AOp.mono (K:=fun F' H'=>vcl P ops K rest F' H') ?_ fun F' H' hk=>jbD rest F' H' hk
     obtain ⟨dst,op,ty,pos,after,guard⟩:=o
     unfold vcG at h
     split at h
     ·rename_i f args argTypes heq
      cases heq
      obtain ⟨r,hc,hk⟩:=h
      refine jay hg hb (fun hbw w tm Q next h1 h2 hn=>?_) (fun hbw=>⟨_,jbV hbw,hk⟩)
      obtain ⟨ok,hcall⟩:=hc hbw
      have hcg:=jbU ok
      have e1:evO F f=evG F f:=hcg f (by simp [Op.operands,Call.operands])
      have e2:args.toList.map (evO F)=args.toList.map (evG F):=List.map_congr_left fun x hx=>hcg x (by simp [Op.operands,Call.operands] at hx ⊢;exact .inr hx)
      refine jbc (ev:=evO F) e1 e2 hcall h1 (jbx h2) fun v r' w' H' hR g1 g2 g3=>?_
      obtain ⟨rfl,rfl⟩:=hR
      rw [Act.put_eq]
      exact hn _ w' _ H' hk g1 ((h2.ext g3).put dst (jcA hbw g2) []) g3
     ·rename_i f m args argTypes heq
      cases heq
      obtain ⟨r,hc,hk⟩:=h
      refine jay hg hb (fun hbw w tm Q next h1 h2 hn=>?_) (fun hbw=>⟨_,jbV hbw,hk⟩)
      obtain ⟨ok,hcall⟩:=hc hbw
      have hcg:=jbU ok
      have e1:evO F f=evG F f:=hcg f (by simp [Op.operands,Call.operands])
      have e2:args.toList.map (evO F)=args.toList.map (evG F):=List.map_congr_left fun x hx=>hcg x (by simp [Op.operands,Call.operands] at hx ⊢;exact .inr hx)
      refine jc7 (ev:=evO F) e1 e2 hcall h1 (jbx h2) fun v r' w' H' hR g1 g2 g3=>?_
      obtain ⟨rfl,rfl⟩:=hR
      rw [Act.put_eq]
      exact hn _ w' _ H' hk g1 ((h2.ext g3).put dst (jcA hbw g2) []) g3
     ·rename_i c x y heq
      simp only at heq
      subst heq
      obtain ⟨hs,hk⟩:=h
      refine jay hg hb (fun hbw w tm Q next h1 h2 hn=>?_) (fun hbw=>⟨_,jbV hbw,hk⟩)
      obtain ⟨ok,hq⟩:=hs hbw
      obtain ⟨v,hrun,hv⟩:=jdC (P:=P) (ρ:=(Act.mk tm []).eval) (dst:=dst) (ty:=ty) (pos:=pos) (after:=after) (guard:=guard) (je3 h2 c ok) (h2.eval [] x) (h2.eval [] y) hq
      simp only [Oper.wp,hrun,Oper.upon]
      rw [Act.put_eq]
      exact hn _ w _ H hk h1 (h2.put dst (jcA hbw hv) []) (Ext.refl w H)
     ·split at h
      ·obtain ⟨hs,hk⟩:=h
       refine jay hg hb (fun hbw w tm Q next h1 h2 hn=>?_) (fun hbw=>⟨_,jbV hbw,hk⟩)
       obtain ⟨ok,hq⟩:=hs hbw
       rw [← jbr _ (jbU ok)] at hq
       obtain ⟨v,hrun,hv⟩:=jcU (ρ:=(Act.mk tm []).eval) ⟨dst,op,ty,pos,after,guard⟩ h1 (jbx h2) hq
       simp only [Oper.wp,hrun,Oper.upon]
       rw [Act.put_eq]
       rw [jbr _ (jbU ok)] at hv
       exact hn _ w _ H hk h1 (h2.put dst (jcA hbw hv) []) (Ext.refl w H)
      ·exact h.elim
    ·refine AOp.mono (K:=fun F' H'=>vcl P ops K rest F' H') ?_ fun F' H' hk=>jbD rest F' H' hk
     refine jay hg hb (fun hbw w tm Q next h1 h2 hn=>?_) (fun hbw=>⟨_,fun w=>.any _,h.2 hbw⟩)
     exact jjP (h.1 hbw) h1 h2 (fun x=>h2.eval [] x) hn
   ·exact h.elim
theorem jdk {id:Nat} {l:List Oper} {Q:Exit→List AV→Hp→Prop} (h:vcl P l.toArray (Q .normal) l F H):AWP P (.region id l.toArray false) Q F H:=
 jdv (by simpa using jbD l F H h)
-- the results of a body
def jdt (P:Program) (H:Hp) (F:List AV):List ResultVar→Option (List AV)
 | []=>some []
 | .tmp t::rest=>(jdt P H F rest).map (F.getD t .any::·)
 | .cell a t::rest=>match jaR H (F.getD a .any),jal P t,jba P t with
  | some (_,cs),some ag,some k=>(jdt P H F rest).map (jcd ag k cs::·)
  | _,_,_=>none
def jaW (P:Program) (H:Hp) (F:List AV):List ResultVar→Prop
 | []=>True
 | .tmp _::rest=>jaW P H F rest
 | .cell a t::rest=>match jaR H (F.getD a .any),jba P t with
  | some (c,cs),some k=>(c∧k≤cs.length∧1≤cs.length)∧jaW P H F rest
  | _,_=>False
def jaF:List AV→AV
 | [r]=>r
 | rs=>.tup rs
def jkh (tm:Array Value):ResultVar→Sem Value
 | .tmp t=>pure (tm.getD t undef)
 | .cell a t=>do loadVar t (← asAddr (tm.getD a undef))
theorem jgl (fn:Func) (tm:Array Value):results fn tm=(do let vs ← fn.results.mapM (jkh tm);pure (if h:vs.size=1 then vs[0] else .tuple vs)):=rfl
theorem jdO {w:NW} {tm:Array Value} (hw:RelW w H) (h2:RelF w F tm):∀ (rs:List ResultVar) (out:List AV),jaW P H F rs→jdt P H F rs=some out→
  ∃ vs:List Value,RelL w out vs∧(rs.mapM (jkh tm)).run P w.toWorld=.ok vs w.toWorld
 | [],out,_,h=>by
  simp [jdt] at h
  subst h
  exact ⟨[],⟨rfl,fun i a v ha=>by simp at ha⟩,by simp⟩
 | .tmp t::rest,out,hok,h=>by
  simp only [jdt,Option.map_eq_some_iff] at h
  obtain ⟨l,hl,rfl⟩:=h
  obtain ⟨vs,hrel,hrun⟩:=jdO hw h2 rest l hok hl
  refine ⟨tm.getD t undef::vs,⟨by simp [hrel.1],fun i a v ha hv=>?_⟩,?_⟩
  ·cases i with
   | zero=>
    simp only [List.getElem?_cons_zero,Option.some.injEq] at ha hv
    subst ha hv
    exact h2.eval [] (.tmp t)
   | succ i=>exact hrel.2 i a v (by simpa using ha) (by simpa using hv)
  ·rw [List.mapM_cons]
   simp only [jkh,Sem.run_bind,Sem.run_pure,Result.andThen_ok]
   rw [hrun]
   rfl
 | .cell ad t::rest,out,hok,h=>by
  simp only [jdt] at h
  simp only [jaW] at hok
  split at h
  ·rename_i c cs ag k e1 e2 e3
   rw [e1,e3] at hok
   obtain ⟨⟨hc,hk1,hk2⟩,hok⟩:=hok
   simp only [Option.map_eq_some_iff] at h
   obtain ⟨l,hl,rfl⟩:=h
   obtain ⟨vs,hrel,hrun⟩:=jdO hw h2 rest l hok hl
   obtain ⟨addr,us,hv,hcell,hr⟩:=jc1 (h2.eval [] (.tmp ad)) hw e1 hc
   obtain ⟨v,hload,hvr⟩:=jcc (P:=P) e2 e3 hk1 hk2 hcell hr
   have hv':tm.getD ad undef=.pointer (some addr):=hv
   refine ⟨v::vs,⟨by simp [hrel.1],fun i a u ha hu=>?_⟩,?_⟩
   ·cases i with
    | zero=>
     simp only [List.getElem?_cons_zero,Option.some.injEq] at ha hu
     subst ha hu
     exact hvr
    | succ i=>exact hrel.2 i a u (by simpa using ha) (by simpa using hu)
   ·rw [List.mapM_cons]
    have ha:(asAddr (tm.getD ad undef)).run P w.toWorld=.ok addr w.toWorld:=by rw [hv'];rfl
    have hf:(jkh tm (.cell ad t)).run P w.toWorld=.ok v w.toWorld:=by simp only [jkh,Sem.run_bind,ha,hload,Result.andThen_ok]
    simp only [Sem.run_bind,hf,hrun,Sem.run_pure,Result.andThen_ok]
  ·cases h
theorem jfo {fn:Func} {w:NW} {tm:Array Value} {out:List AV} (hw:RelW w H) (h2:RelF w F tm) (hok:jaW P H F fn.results.toList) (h:jdt P H F fn.results.toList=some out):∃ v,(results fn tm).run P w.toWorld=.ok v w.toWorld∧RelV w (jaF out) v:=by
 obtain ⟨vs,hrel,hrun⟩:=jdO (P:=P) hw h2 _ out hok h
 have hm:(fn.results.mapM (jkh tm)).run P w.toWorld=.ok vs.toArray w.toWorld:=by
  rw [Array.mapM_eq_mapM_toList]
  simp only [Sem.run_map,hrun,Result.andThen_ok]
 have hr:(results fn tm).run P w.toWorld=.ok (if h:vs.toArray.size=1 then vs.toArray[0] else .tuple vs.toArray) w.toWorld:=by
  rw [jgl]
  simp only [Sem.run_bind,hm,Result.andThen_ok,Sem.run_pure]
 refine ⟨_,hr,?_⟩
 match vs,out,hrel with
 | [],[],hrel=>exact .tup _ _ rfl fun i a v ha=>by simp at ha
 | [v],[a],hrel=>exact hrel.2 0 _ _ rfl rfl
 | v::v'::vs,a::a'::out,hrel=>exact .tup _ _ (by have:=hrel.1;simpa using this) fun i x y hx hy=>hrel.2 i x y hx (by simpa using hy)
 | [],_::_,hrel=>have:=hrel.1;simp at this
 | _::_,[],hrel=>have:=hrel.1;simp at this
 | [_],_::_::_,hrel=>have:=hrel.1;simp at this
 | _::_::_,[_],hrel=>have:=hrel.1;simp at this
def jhD (P:Program) (fn:Func) (R:AV→List (Nat×Row)→Prop):Exit→List AV→Hp→Prop
 | .normal,F,H | .ret,F,H=>∃ out r H',jdt P H F fn.results.toList=some out∧jaW P H F fn.results.toList∧RLe (jaF out) H r H'∧R r H'.l
 | _,_,_=>False
theorem jej {f:FuncId} {fn:Func} {c:Code} {args:List AV} {l:List (Nat×Row)} {R:AV→List (Nat×Row)→Prop} (hf:P.funcs[f]?=some fn) (hb:fn.body=some c) (h:AWP P c (jhD P fn R) (args++List.replicate (fn.ntmps - args.length) .any) (entry l)) :
  ACalls P f args l R:=fun w vs h1 h2=>by
 have hlen:args.length=vs.size:=h2.1
 refine calls_of_wp hf hb (wp_mono (h w _ h1 ?_) ?_)
 ·refine ⟨by simp [hlen],fun i a v ha hv=>?_⟩
  rcases Nat.lt_or_ge i args.length with hi | hi
  ·rw [List.getElem?_append_left hi] at ha
   rw [Array.getElem?_append_left (by omega)] at hv
   exact h2.2 i a v ha hv
  ·rw [List.getElem?_append_right hi] at ha
   rw [List.getElem?_replicate] at ha
   split at ha<;>cases ha
   exact .any _
 ·rintro e a W ⟨tm,F',H',w',rfl,rfl,hq,g1,g2,g3⟩
  have fin:(∃ out r H'',jdt P H' F' fn.results.toList=some out∧jaW P H' F' fn.results.toList∧RLe (jaF out) H' r H''∧R r H''.l)→
    ∃ v,(results fn tm).run P w'.toWorld=.ok v w'.toWorld∧∃ v' r H'' w'',w'.toWorld=NW.toWorld w''∧Ending.returned v=.returned v'∧R r (Hp.l H'')∧RelW w'' H''∧RelV w'' r v'∧ExtB w (entry l) w'' H'':=by
   rintro ⟨out,r,H'',e1,e0,e2,e3⟩
   obtain ⟨v,hrun,hv⟩:=jfo g1 g2 e0 e1
   obtain ⟨w'',k0,k1,k2,k3⟩:=e2 w' v g1 hv
   exact ⟨v,hrun,v,r,H'',w'',k0.symm,rfl,e3,k1,k2,g3.trans k3⟩
  cases e with
  | normal=>exact ⟨rfl,fin hq⟩
  | ret=>exact ⟨rfl,fin hq⟩
  | exit id=>exact hq.elim
  | goto l=>exact hq.elim
  | panic ch=>exact hq.elim
  | outgrown=>exact hq.elim
end
-- encoders of Lean data
class EncOK {α:Type} (enc:α→List AV) (sz:outParam Nat):Prop where
 len:∀ x,(enc x).length=sz
 ones:∀ x,ones (enc x)=true
 free:∀ x,jaV noQ (enc x)=true
def QL (q:Nat→Bool) (css:List (List AV)):Prop:=∀ cs∈css,jaV q cs=true
def jk9 (q:Nat→Bool):Row→Prop
 | .var _ cs=>jaV q cs=true
 | .vec _ _ css=>QL q css
 | .mp _ vs=>jaV q vs=true
theorem jcX {q:Nat→Bool}:∀ (a b:List AV),jaV q (a++b)=(jaV q a && jaV q b)
 | [],b=>by simp [jaV]
 | x::a,b=>by simp [jaV,jcX a b,Bool.and_assoc]
theorem jcw {q:Nat→Bool}:∀ {css:List (List AV)},QL q css→jaV q css.flatten=true
 | [],_=>rfl
 | cs::css,h=>by
  rw [List.flatten_cons,jcX,h cs (by simp),jcw (css:=css) fun c hc=>h c (by simp [hc])];rfl
theorem jdI {q:Nat→Bool} {r:Row} (h:jk9 q r):jaV q r.cells=true:=by
 cases r with
 | var t cs=>exact h
 | vec e sz css=>exact jcw h
 | mp ks vs=>exact h
theorem jk7 (q:Nat→Bool):QL q []:=fun _ h=>by simp at h
theorem jk6 {q:Nat→Bool} {α:Type} {enc:α→List AV} {sz:Nat} [e:EncOK enc sz] (l:List α):QL q (l.map enc):=fun c hc=>by
 obtain ⟨x,_,rfl⟩:=List.mem_map.1 hc
 exact jbb (fun _ h=>by cases h) _ (e.free x)
theorem jh4 (sz:Nat):jgs sz []:=fun _ h=>by simp at h
-- calls
def jkO:List (Nat×Row)→Hp→Prop
 | [],_=>True
 | (i,r)::l,H=>H.get i=some r∧jkO l H
theorem jfH:∀ {l:List (Nat×Row)} {H:Hp},jkO l H→∀ i r,jaQ l i=some r→H.get i=some r
 | [],_,_,i,r,h=>by cases h
 | (j,s)::l,H,hf,i,r,h=>by
  simp only [jaQ] at h
  split at h
  ·rename_i e;subst e;cases h;exact hf.1
  ·exact jfH hf.2 i r h
def jlb (q:Nat→Bool):List (Nat×Row)→Prop
 | []=>True
 | (_,r)::l=>jk9 q r∧jlb q l
theorem jfU {q:Nat→Bool}:∀ {l:List (Nat×Row)},jlb q l→∀ i r,jaQ l i=some r→jaV q r.cells=true
 | [],_,i,r,h=>by cases h
 | (j,s)::l,hf,i,r,h=>by
  simp only [jaQ] at h
  split at h
  ·cases h;exact jdI hf.1
  ·exact jfU hf.2 i r h
def je5 (L:List Nat) (H:Hp):List (Nat×Row)→Prop
 | []=>True
 | (i,_)::l=>(L.contains i=true∨H.get i=none)∧je5 L H l
theorem jer {L:List Nat} {H:Hp}:∀ {l:List (Nat×Row)},je5 L H l→∀ i r,jaQ l i=some r→L.contains i=true∨H.get i=none
 | [],_,i,r,h=>by cases h
 | (j,s)::l,hf,i,r,h=>by
  simp only [jaQ] at h
  split at h
  ·rename_i e;subst e;exact hf.1
  ·exact jer hf.2 i r h
section
variable {P:Program} {f:FuncId} {args:List AV} {H:Hp} {l:List (Nat×Row)} {K:AV→Hp→Prop}
theorem jgQ {R:AV→List (Nat×Row)→Prop} (hc:ACalls P f args l R) (h1:jkO l H) (h2:jaV (fun i=>(ids l).contains i) args=true) (h3:jlb (fun i=>(ids l).contains i) l)
  (hk:∀ r l',R r l'→je5 (ids l) H l'∧(ids l').Nodup∧K r ⟨H.B,jdq H.l l'⟩):HCalls P f args H K:=fun _ _ hw hv=>
 jeX hc (jfH h1) h2 (jfU h3) (fun r l' hR=>⟨jer (hk r l' hR).1,(hk r l' hR).2⟩) hw hv
theorem jgP {r0:AV} {l0:List (Nat×Row)} (hc:ACalls P f args l fun r l'=>r=r0∧l'=l0) (h1:jkO l H) (h2:jaV (fun i=>(ids l).contains i) args=true) (h3:jlb (fun i=>(ids l).contains i) l)
  (h4:je5 (ids l) H l0) (h5:(ids l0).Nodup) (hk:K r0 ⟨H.B,jdq H.l l0⟩):HCalls P f args H K:=
 jgQ hc h1 h2 h3 fun r l' ⟨e1,e2⟩=>by rw [e1,e2];exact ⟨h4,h5,hk⟩
theorem jbe {r:AV} (hc:jax P f args r) (h2:jaV noQ args=true) (hk:K r H):HCalls P f args H K:=
 jgP hc trivial (by simpa [ids] using h2) trivial trivial (by simp [ids]) hk
theorem jbC {args:List AV} (hc:jae P f=true) (h:HCalls P f args H K):jaU P (.raw (.func (.func f) #[] #[])) args H K:=.inl ⟨hc,by simpa using h⟩
end
-- things of which D holds are let go of, and may be read from then on
def jbo (D:Nat→Bool):List (Nat×Row)→List (Nat×Row)
 | []=>[]
 | (j,s)::l=>bif D j then jbo D l else (j,s)::jbo D l
theorem jdy (D:Nat→Bool):∀ (l:List (Nat×Row)) (i:Nat),jaQ (jbo D l) i=if D i=true then none else jaQ l i
 | [],i=>by simp [jbo,jaQ]
 | (k,s)::l,i=>by
  have ih:=jdy D l i
  unfold jbo
  cases hk:D k
  ·simp only [cond_false,jaQ]
   split
   ·rename_i h;subst h;rw [hk];simp
   ·exact ih
  ·simp only [cond_true,jaQ]
   rw [ih]
   split
   ·rfl
   ·rename_i h
    rw [if_neg]
    rintro rfl
    exact h hk
def NW.freeS (w:NW) (D:Nat→Bool):NW:={ w with O:=fun b=>w.O b∧∀ i m t s,D i=true→w.nm i m≠some (.at b t s),nm:=fun j n=>if D j=true then none else w.nm j n }
def jeu (D:Nat→Bool):Nat→Bool:=fun i=>!(D i)
def jgm (D:Nat→Bool):List (Nat×Row)→Prop
 | []=>True
 | (j,r)::l=>(D j=true∨jk9 (jeu D) r)∧jgm D l
theorem jfV {D:Nat→Bool}:∀ {l:List (Nat×Row)},jgm D l→∀ {i:Nat} {r:Row},jaQ l i=some r→D i=false→jaV (jeu D) r.cells=true
 | [],_,i,r,h,_=>by cases h
 | (j,s)::l,hf,i,r,h,hd=>by
  simp only [jaQ] at h
  split at h
  ·rename_i e;subst e;cases h
   rcases hf.1 with h | h
   ·rw [hd] at h;cases h
   ·exact jdI h
  ·exact jfV hf.2 h hd
theorem jbg (w:NW) (D:Nat→Bool):Keep (jeu D) w (w.freeS D):=⟨Nat.le_refl _,fun b _ h=>⟨rfl,fun h'=>h h'.1⟩,fun j n z hq h=>by
 show (if D j=true then none else w.nm j n)=_
 rw [if_neg (by unfold jeu at hq;intro e;rw [e] at hq;cases hq)];exact h⟩
theorem jex {w:NW} {H:Hp} (r:RelW w H) {D:Nat→Bool} (hB:H.B.all (jeu D)=true) (hl:jgm D H.l):RelW (w.freeS D) ⟨H.B,jbo D H.l⟩∧ExtB w H (w.freeS D) ⟨H.B,jbo D H.l⟩:=by
 have nmE:∀ j n,(w.freeS D).nm j n=if D j=true then none else w.nm j n:=fun _ _=>rfl
 have gE:∀ j,(Hp.mk H.B (jbo D H.l)).get j=if D j=true then none else H.get j:=fun j=>jdy D H.l j
 refine ⟨{ rows:=fun j s hj=>?_,dom:=fun j n z hz=>?_,inj:=fun j n j' n' b t s t' s' h1 h2=>?_,own:=fun j n b t s h=>?_,fin:=fun b hb=>r.fin b hb.1,glob:=r.glob.keep (jbg w D) },{ jbg w D with names:=fun j n z hq h=>?_,os:=rfl,tape:=rfl,output:=rfl,rest:=fun b hb hO hno=>⟨rfl,⟨hO,fun i m t s _=>hno _ _ _ _⟩,fun j n t s h=>?_⟩,base:=rfl }⟩
 ·rw [gE] at hj
  split at hj
  ·cases hj
  ·rename_i e
   obtain ⟨h1,z,h2,h3⟩:=r.rows j s hj
   refine ⟨h1,z,by rw [nmE,if_neg e];exact h2,?_⟩
   cases z with
   | nil=>exact h3
   | «at» b t st=>
    obtain ⟨g1,cur,g2,g3,g5⟩:=h3
    exact ⟨g1,cur,g2,g3,fun k a v ha hv=>(g5 k a v ha hv).keep (jbg w D) (jaz (jfV hl hj (by simpa using e)) ha)⟩
 ·rw [nmE] at hz
  split at hz
  ·cases hz
  ·rename_i e
   obtain ⟨r',h1,h2⟩:=r.dom j n z hz
   exact ⟨r',by rw [gE,if_neg e];exact h1,h2⟩
 ·rw [nmE] at h1 h2
  split at h1
  ·cases h1
  ·split at h2
   ·cases h2
   ·exact r.inj _ _ _ _ _ _ _ _ _ h1 h2
 ·rw [nmE] at h
  split at h
  ·cases h
  ·rename_i e
   exact ⟨r.own _ _ _ _ _ h,fun i m t' s' hd h'=>e (by rw [r.inj _ _ _ _ _ _ _ _ _ h h'];exact hd)⟩
 ·have hq:H.B.contains j=true:=hq
  have:=List.all_eq_true.1 hB j (List.contains_iff_mem.1 hq)
  rw [nmE,if_neg (by intro e;unfold jeu at this;rw [e] at this;cases this)];exact h
 ·rw [nmE] at h
  split at h
  ·cases h
  ·exact hno _ _ _ _ h
inductive VTo (D:Nat→Bool) (H:Hp):AV→AV→Prop
 | same (a:AV) (h:a.all (jeu D)=true):VTo D H a a
 | drop (a:AV):VTo D H a .any
 | nil (sz:Nat) (d:List AV):VTo D H (.raw (.slice none 0 0)) (.sl false sz [] d)
 | lit (x:Bool) (sz:Nat) (css:List (List AV)) (d d':List AV):VTo D H (.sl x sz css d) (.sl false sz css d')
 | agg (cs ds:List AV) (hl:cs.length=ds.length) (h:∀ (i:Nat) c d,cs[i]?=some c→ds[i]?=some d→VTo D H c d):VTo D H (.agg cs) (.agg ds)
 | tup (cs ds:List AV) (hl:cs.length=ds.length) (h:∀ (i:Nat) c d,cs[i]?=some c→ds[i]?=some d→VTo D H c d):VTo D H (.tup cs) (.tup ds)
 | rsc (dd:List AV) (i sz m n:Nat) (e:TypeId) (css:List (List AV)) (dss:List (List AV)) (hD:D i=true) (hi:H.get i=some (.vec e sz css)) (hm:m=css.length) (hn:n≤m) (hd:dss.length=n) (hds:∀ ds∈dss,ds.length=sz) (hno:QL noQ dss)
   (h:∀ k (j:Nat) c d,k < n→(css.getD k [])[j]?=some c→(dss.getD k [])[j]?=some d→VTo D H c d):VTo D H (.rs i m sz n) (.sl false sz dss dd)
 | pt (i k j:Nat) (t:TypeId) (cs ds:List AV) (hD:D i=true) (hi:H.get i=some (.var t cs)) (hl:(cs.drop j).length=ds.length) (hno:jaV noQ ds=true) (h:∀ (q:Nat) c d,(cs.drop j)[q]?=some c→ds[q]?=some d→VTo D H c d):VTo D H (.pt i 0 k j) (.ip ds)
theorem VTo.sound {D:Nat→Bool} {H:Hp} {w:NW} (hw:RelW w H) {a a':AV} (h:VTo D H a a'):∀ {v:Value},RelV w a v→RelV (w.freeS D) a' v:=by
 induction h with
 | same a h=>intro v hv;exact hv.keep (jbg w D) h
 | drop a=>intro v hv;exact .any v
 | nil sz d=>intro v hv;have:=jab hv;subst this;exact .sl0 _ _ _ _ (fun e=>by cases e)
 | lit x sz css d d'=>
  intro v hv
  have hv':=hv.keep (jbg w D) (by simp only [AV.all])
  cases hv' with
  | sl0 _ _ A c _=>exact .sl0 _ _ _ _ (fun e=>by cases e)
  | sl _ _ _ a c vs hn hc hx hsz hb hH hcell hr=>exact .sl _ _ _ a c vs hn hc (fun e=>by cases e) hsz hb hH hcell hr
 | agg cs ds hl _ ih=>
  intro v hv
  cases hv with
  | agg _ vs hl' hr=>
   refine .agg ds vs (by omega) fun i d v hd hv=>?_
   have hi:i < cs.length:=by rw [hl];exact (List.getElem?_eq_some_iff.1 hd).1
   have hc:cs[i]?=some cs[i]:=List.getElem?_eq_getElem hi
   exact ih i _ d hc hd (hr i _ v hc hv)
 | tup cs ds hl _ ih=>
  intro v hv
  cases hv with
  | tup _ vs hl' hr=>
   refine .tup ds vs (by omega) fun i d v hd hv=>?_
   have hi:i < cs.length:=by rw [hl];exact (List.getElem?_eq_some_iff.1 hd).1
   have hc:cs[i]?=some cs[i]:=List.getElem?_eq_getElem hi
   exact ih i _ d hc hd (hr i _ v hc hv)
 | rsc dd i sz m n e css dss hD hi hm hn hd hds hno _ ih=>
  intro v hv
  subst hm
  cases hv with
  | rs0 _ _ _ A hnm=>
   have:dss=[]:=List.length_eq_zero_iff.1 (by omega)
   rw [this];exact .sl0 _ _ _ _ (fun h=>by cases h)
  | rs _ _ _ _ b t c hnm hc hle hs0=>
   by_cases h0:n=0
   ·have:dss=[]:=List.length_eq_zero_iff.1 (by omega)
    rw [this,h0];exact .sl0 _ _ _ _ (fun h=>by cases h)
   ·have hsz0:0 < sz:=hs0
    have:=RelV.sl (w:=w.freeS D) (d:=dd) false sz dss ⟨b,0,none⟩ c (fun k=>(w.cell? ⟨b,k,none⟩).getD undef) (by omega) (by omega) (fun h=>by cases h) hds (hw.lt hnm) (fun h=>h.2 i _ t sz hD hnm) (fun k j hk hj=>by
     obtain ⟨_,_,_,v,h1,h2⟩:=jcg hw hi hnm (k:=k) (j:=j) (by omega) hj
     show w.cell? _=_
     rw [jak,Nat.zero_add,h1];rfl) (fun k j u hk hu=>by
     have hj:j < sz:=by have:=(List.getElem?_eq_some_iff.1 hu).1;rwa [jbI hds hk] at this
     obtain ⟨_,hall,_,v,h1,h2⟩:=jcg hw hi hnm (k:=k) (j:=j) (by omega) hj
     have hlc:=jbI hall (show k < css.length by omega)
     have hc:(css.getD k [])[j]?=some ((css.getD k [])[j]'(by omega)):=List.getElem?_eq_getElem (by omega)
     rw [h1]
     have hmem:dss.getD k []∈dss:=by
      have:dss.getD k []=dss[k]:=by simp [hk]
      rw [this];exact List.getElem_mem _
     exact (ih k j _ u (by omega) hc hu (h2 _ hc)).strip (jaz (hno _ hmem) hu))
    rw [hd] at this
    exact this
 | pt i k j t cs ds hD hi hl hno _ ih=>
  intro v hv
  cases hv with
  | pt _ _ _ _ b t' s hnm=>
   obtain ⟨hok,z,hz,hrow⟩:=hw.rows i _ hi
   have:z=.at b t' s:=by have hz:w.nm i 0=some z:=hz;rw [hnm] at hz;cases hz;rfl
   subst this
   obtain ⟨rfl,cur,hh,⟨hs,hle⟩,hr⟩:=hrow
   have hs0:(Row.var t cs).stride=0:=rfl
   have hle:cs.length≤t':=hle
   have e0:k * (Row.var t cs).stride+j=j:=by rw [hs0];omega
   rw [e0]
   refine .ip ds ⟨b,j,none⟩ (fun q=>cur.getD (j+q) undef) (hw.lt hnm) (fun h=>h.2 i 0 _ _ hD hnm) (fun q hq=>?_) (fun q u hu=>?_)
   ·show w.cell? _=_
    simp only [List.length_drop] at hl
    have:j+q < cur.size:=by omega
    rw [jak,jcn b _ cur _ (0,0) hh];simp [this]
   ·have hql:q < (cs.drop j).length:=by rw [hl];exact (List.getElem?_eq_some_iff.1 hu).1
    have hc:(cs.drop j)[q]?=some (cs.drop j)[q]:=List.getElem?_eq_getElem hql
    simp only [List.length_drop] at hql
    have:j+q < cur.size:=by omega
    refine (ih q _ u hc hu (hr (j+q) _ _ (by rw [← List.getElem?_drop];exact hc) ?_)).strip (jaz hno hu)
    simp [this]
theorem VTo.rs {D:Nat→Bool} {H:Hp} (dd:List AV) (i sz n:Nat) (e:TypeId) (css:List (List AV)) (dss:List (List AV)) (hD:D i=true) (hi:H.get i=some (.vec e sz css)) (hn:n=css.length) (hd:dss.length=css.length) (hds:∀ ds∈dss,ds.length=sz) (hno:QL noQ dss)
  (h:∀ k (j:Nat) c d,k < css.length→(css.getD k [])[j]?=some c→(dss.getD k [])[j]?=some d→VTo D H c d):VTo D H (.rs i n sz n) (.sl false sz dss dd):=
 .rsc dd i sz n n e css dss hD hi hn (Nat.le_refl _) (by omega) hds hno fun k j c d hk=>h k j c d (by omega)
theorem VTo.row {D:Nat→Bool} {H:Hp} {dd:List AV} {i sz n:Nat} {e:TypeId} {α:Type} {enc:α→List AV} [he:EncOK enc sz] (l:List α) (hD:D i=true) (hi:H.get i=some (.vec e sz (l.map enc))) (hn:n=l.length):VTo D H (.rs i n sz n) (.sl false sz (l.map enc) dd):=
 .rs dd i sz n e _ _ hD hi (by simpa using hn) rfl (fun ds hds=>by obtain ⟨x,_,rfl⟩:=List.mem_map.1 hds;exact he.len x) (jk6 l) fun k j c d hk h1 h2=>by
  rw [h1] at h2;cases h2
  have hk':k < l.length:=by simpa using hk
  have e1:(l.map enc).getD k []=enc l[k]:=by simp [hk']
  rw [e1] at h1
  exact .same c (jbG (fun _ h=>by cases h) _ (jaz (he.free _) h1))
theorem VTo.rowC {D:Nat→Bool} {H:Hp} {dd:List AV} {i sz n:Nat} {e:TypeId} {css:List (List AV)} (hD:D i=true) (hi:H.get i=some (.vec e sz css)) (hn:n=css.length) (hs:∀ cs∈css,cs.length=sz) (hq:QL noQ css):VTo D H (.rs i n sz n) (.sl false sz css dd):=
 .rs dd i sz n e _ _ hD hi hn rfl hs hq fun k j c d hk h1 h2=>by
  rw [h1] at h2;cases h2
  have hm:css.getD k []∈css:=by
   have:css.getD k []=css[k]:=by simp [hk]
   rw [this];exact List.getElem_mem _
  exact .same c (jbG (fun _ h=>by cases h) _ (jaz (hq _ hm) h1))
theorem RLe.free {r r':AV} {H:Hp} (D:Nat→Bool) (hB:H.B.all (jeu D)=true) (hl:jgm D H.l) (hv:VTo D H r r'):RLe r H r' ⟨H.B,jbo D H.l⟩:=fun w v h1 h2=>by
 obtain ⟨a,b⟩:=jex h1 hB hl
 exact ⟨w.freeS D,rfl,a,hv.sound h1 h2,b⟩
def VToL (D:Nat→Bool) (H:Hp):List AV→List AV→Prop
 | [],[]=>True
 | a::l,b::m=>VTo D H a b∧VToL D H l m
 | _,_=>False
theorem VToL.get {D:Nat→Bool} {H:Hp}:∀ {l m:List AV},VToL D H l m→l.length=m.length∧∀ (i:Nat) a b,l[i]?=some a→m[i]?=some b→VTo D H a b
 | [],[],_=>⟨rfl,fun i a b h=>by simp at h⟩
 | x::l,y::m,h=>by
  have ih:=VToL.get h.2
  refine ⟨by simp [ih.1],fun i a b ha hb=>?_⟩
  cases i with
  | zero=>simp at ha hb;subst ha hb;exact h.1
  | succ i=>exact ih.2 i a b (by simpa using ha) (by simpa using hb)
theorem VToL.agg {D:Nat→Bool} {H:Hp} {cs ds:List AV} (h:VToL D H cs ds):VTo D H (.agg cs) (.agg ds):=.agg cs ds h.get.1 h.get.2
theorem VToL.tup {D:Nat→Bool} {H:Hp} {cs ds:List AV} (h:VToL D H cs ds):VTo D H (.tup cs) (.tup ds):=.tup cs ds h.get.1 h.get.2
theorem VToL.pt {D:Nat→Bool} {H:Hp} {i k j:Nat} {t:TypeId} {cs ds:List AV} (hD:D i=true) (hi:H.get i=some (.var t cs)) (hno:jaV noQ ds=true) (h:VToL D H (cs.drop j) ds):VTo D H (.pt i 0 k j) (.ip ds):=.pt i k j t cs ds hD hi h.get.1 hno h.get.2
theorem FLe.free {F F':List AV} {H:Hp} (D:Nat→Bool) (hB:H.B.all (jeu D)=true) (hl:jgm D H.l) (hv:VToL D H F F'):FLe F H F' ⟨H.B,jbo D H.l⟩:=fun w tm h1 h2=>by
 obtain ⟨a,b⟩:=jex h1 hB hl
 obtain ⟨hl',hg⟩:=hv.get
 refine ⟨w.freeS D,rfl,a,⟨by rw [← hl'];exact h2.1,fun i c v hc hv=>?_⟩,b⟩
 have hi:i < F.length:=by rw [hl'];exact (List.getElem?_eq_some_iff.1 hc).1
 exact (hg i F[i] c (List.getElem?_eq_getElem hi) hc).sound h1 (h2.2 i _ v (List.getElem?_eq_getElem hi) hv)
-- what is lent: a function that is handed nothing of one's own but to read
mutual
def AV.flat:AV→Bool
 | .raw _=>true
 | .any=>true
 | .agg cs=>jgb cs
 | .tup cs=>jgb cs
 | .gd _ v=>v.flat
 | _=>false
def jgb:List AV→Bool
 | []=>true
 | a::l=>a.flat && jgb l
end
theorem jc6:∀ {l:List AV},jgb l=true→∀ {i:Nat} {a:AV},l[i]?=some a→a.flat=true
 | [],_,i,a,h=>by simp at h
 | x::l,hl,i,a,h=>by
  simp only [jgb,Bool.and_eq_true] at hl
  cases i with
  | zero=>simp at h;subst h;exact hl.1
  | succ i=>exact jc6 hl.2 (by simpa using h)
theorem RelV.flat {w:NW} {a:AV} {v:Value} (h:RelV w a v):∀ {w':NW},a.flat=true→RelV w' a v:=by
 induction h with
 | raw v=>intro w' _;exact .raw v
 | any v=>intro w' _;exact .any v
 | agg cs vs hl _ ih=>intro w' ha;simp only [AV.flat] at ha;exact .agg cs vs hl fun i a v h1 h2=>ih i a v h1 h2 (jc6 ha h1)
 | tup cs vs hl _ ih=>intro w' ha;simp only [AV.flat] at ha;exact .tup cs vs hl fun i a v h1 h2=>ih i a v h1 h2 (jc6 ha h1)
 | gd p a v _ hu ih=>intro w' ha;exact .gd p a v (fun hp=>ih hp (by simpa only [AV.flat] using ha)) hu
 | sl0=>intro w' ha;simp only [AV.flat] at ha;cases ha
 | sl=>intro w' ha;simp only [AV.flat] at ha;cases ha
 | ip=>intro w' ha;simp only [AV.flat] at ha;cases ha
 | clo=>intro w' ha;simp only [AV.flat] at ha;cases ha
 | pt=>intro w' ha;simp only [AV.flat] at ha;cases ha
 | rs0=>intro w' ha;simp only [AV.flat] at ha;cases ha
 | rs=>intro w' ha;simp only [AV.flat] at ha;cases ha
 | rc=>intro w' ha;simp only [AV.flat] at ha;cases ha
 | rv0=>intro w' ha;simp only [AV.flat] at ha;cases ha
 | rv=>intro w' ha;simp only [AV.flat] at ha;cases ha
 | mr=>intro w' ha;simp only [AV.flat] at ha;cases ha
 | bd=>intro w' ha;simp only [AV.flat] at ha;cases ha
 | ifc=>intro w' ha;simp only [AV.flat] at ha;cases ha
 | mv=>intro w' ha;simp only [AV.flat] at ha;cases ha
-- a slot that holds nothing yet, as a row of one's own without elements
theorem FLe.nil {F:List AV} {H:Hp} (i slot:Nat) (e:TypeId) {sz:Nat} (hi:H.get i=none) (h0:0 < sz) (hs:F[slot]?=some (.raw (.slice none 0 0))∨∃ x s d,F[slot]?=some (.sl true s x d)∧x=[]):FLe F H (F.set slot (.rs i 0 sz 0)) (H.put i (.vec e sz [])):=fun w tm h1 h2=>by
 obtain ⟨a,b⟩:=jfe h1 hi e h0
 refine ⟨w.name i 0 .nil,rfl,a,⟨by rw [List.length_set];exact h2.1,fun k c v hc hv=>?_⟩,b.toB⟩
 rw [List.getElem?_set] at hc
 by_cases hk:slot=k
 ·subst hk
  rw [if_pos rfl] at hc
  split at hc
  ·cases hc
   have hv':∃ A,v=.slice A 0 0:=by
    rcases hs with hs | ⟨x,s,d,hs,rfl⟩
    ·exact ⟨none,by have:=h2.2 slot _ v hs hv;cases this;rfl⟩
    ·have:=h2.2 slot _ v hs hv
     cases this with
     | sl0 _ _ A c hx=>have:=hx rfl;subst this;exact ⟨A,rfl⟩
     | sl _ _ _ _ _ _ hn=>simp at hn
   obtain ⟨A,rfl⟩:=hv'
   exact .rs0 _ _ _ _ (NW.name_same _ _ _ _)
  ·cases hc
 ·rw [if_neg hk] at hc
  exact (h2.2 k c v hc hv).ext b
@[go_sem] theorem jiy (next:List AV→Hp→Prop) (Q:Exit→List AV→Hp→Prop) (F:List AV) (H:Hp):jeR next Q .normal F H=next F H:=(rfl)
@[go_sem] theorem jkv (next:List AV→Hp→Prop) (Q:Exit→List AV→Hp→Prop) (F:List AV) (H:Hp):jeR next Q .ret F H=Q .ret F H:=(rfl)
@[go_sem] theorem jj3 (next:List AV→Hp→Prop) (Q:Exit→List AV→Hp→Prop) (id:Nat) (F:List AV) (H:Hp):jeR next Q (.exit id) F H=Q (.exit id) F H:=(rfl)
@[go_sem] theorem jhQ (id:Nat) (Q:Exit→List AV→Hp→Prop) (F:List AV) (H:Hp):jb6 id Q .normal F H=Q .normal F H:=(rfl)
@[go_sem] theorem ji6 (id:Nat) (Q:Exit→List AV→Hp→Prop) (F:List AV) (H:Hp):jb6 id Q (.exit id) F H=Q .normal F H:=by simp [jb6]
def AP (K:AV→Hp→Prop) (_:Dep K):AV→Hp→Prop:=K
def AP1 (K:AV→Prop) (_:Dep K):AV→Prop:=K
@[go_sem] theorem jlF (K:AV→Hp→Prop) (d:Dep K) (r:AV) (H:Hp):AP K d r H=K r H:=(rfl)
@[go_sem] theorem jkt (K:AV→Prop) (d:Dep K) (r:AV):AP1 K d r=K r:=(rfl)
theorem jhS {K:AV→Hp→Prop} {d:Dep K} {r:AV} {H:Hp} (h:K r H):AP K d r H:=h
def jhj (o:Option Bool) (A:Bool→Prop) (_:Dep A):Prop:=match o with
 | some b=>A b
 | none=>False
@[go_sem] theorem jjK (b:Bool) (A:Bool→Prop) (d:Dep A):jhj (some b) A d=A b:=(rfl)
def vIf (q:Bool) (A B:Prop) (_:Dep A) (_:Dep B):Prop:=if q=true then A else B
@[go_sem] theorem jlV (A B:Prop) (d:Dep A) (e:Dep B):vIf true A B d e=A:=(rfl)
@[go_sem] theorem jll (A B:Prop) (d:Dep A) (e:Dep B):vIf false A B d e=B:=(rfl)
@[go_sem] theorem jmP {P:Program} {ops:Array Oper} {K:List AV→Hp→Prop} (F:List AV) (H:Hp):vcl P ops K [] F H=K F H:=(rfl)
@[go_sem] theorem jl5 {P:Program} {ops:Array Oper} {K:List AV→Hp→Prop} (dst:Option Tmp) (op:Op) (ty:TypeId) (pos:String) (after:Array Edge) (rest:List Oper) (F:List AV) (H:Hp) :
  vcl P ops K (⟨dst,op,ty,pos,after,none⟩::rest) F H=vc P (evA F) H ty (AP (fun r H'=>vcl P ops K rest (jaw F dst r) H') .mk) op:=(rfl)
@[go_sem] theorem jlr {P:Program} {ops:Array Oper} {K:List AV→Hp→Prop} (dst:Option Tmp) (op:Op) (ty:TypeId) (pos:String) (after:Array Edge) (j:Nat) (want:Bool) (rest:List Oper) (F:List AV) (H:Hp) :
  vcl P ops K (⟨dst,op,ty,pos,after,some (j,want)⟩::rest) F H=jhj (ja4 ops F j want) (fun b=>vIf (jan op || jad op) (vcG P F H b (AP1 (fun r=>vcl P ops K rest (jaw F dst r) H) .mk) op)
    ((b=true→vc P (evA F) H ty (AP (fun r H'=>vcl P ops K rest (jaw F dst r) H') .mk) op)∧(b=false→vcl P ops K rest (jaw F dst .any) H)) .mk .mk) .mk:=by
 unfold jhj vIf
 rfl
attribute [go_sem] Int.cast_ofNat_Int
theorem jaa {n:Int} (h:-9223372036854775808≤n∧n≤9223372036854775807):IntKind.i64.wrap n=n:=by
 have h1:(2:Int) ^ 64=18446744073709551616:=by decide
 have h2:(2:Int) ^ (64 - 1)=9223372036854775808:=by decide
 simp only [IntKind.wrap,IntKind.bits,IntKind.signed,Bool.true_and,h1,h2,decide_eq_true_eq]
 split<;>omega
theorem jff {P:Program} {f:FuncId} {fn:Func} {c:Code} {args:List AV} {r:AV} (hf:P.funcs[f]?=some fn) (hb:fn.body=some c) {F:List AV} (hF:args++List.replicate (fn.ntmps - args.length) .any=F)
  (h:AWP P c (jhD P fn fun r' l'=>r'=r∧l'=[]) F ⟨[],[]⟩):jax P f args r:=jej hf hb (by rw [hF];exact h)
section
variable {P:Program} {ev:Operand→AV} {H:Hp} {ty:TypeId} {K:AV→Hp→Prop}
@[go_sem] theorem jmM (x:Operand):vc P ev H ty K (.move x)=K (ev x) H:=by simp [vc,jac,vq]
@[go_sem] theorem jlq (x:Operand):vc P ev H ty K (.assign x)=K (ev x) H:=by simp [vc,jac,vq]
@[go_sem] theorem jmN (c a b:Operand):vc P ev H ty K (.pick c a b)=((jaT (ev c) (ev a) (ev b)).1∧K (jaT (ev c) (ev a) (ev b)).2 H):=by simp [vc,jac,vq]
@[go_sem] theorem jmO (op:UnOp) (t:TypeId) (x:Operand):vc P ev H ty K (.unOp op t x)=((qUn op (ev x)).1∧K (qUn op (ev x)).2 H):=by simp [vc,jac,vq]
@[go_sem] theorem jmL (t:TypeId) (x:Operand):vc P ev H ty K (.load t x)=((jb1 P H t (ev x)).1∧K (jb1 P H t (ev x)).2 H):=by simp [vc,jac,vq]
@[go_sem] theorem jiZ (t:TypeId) (x:Operand) (f:Nat):vc P ev H ty K (.fieldAddr t x f)=((jaq P t (ev x) f).1∧K (jaq P t (ev x) f).2 H):=by simp [vc,jac,vq]
@[go_sem] theorem jl1 (t:TypeId) (x:Operand) (f:Nat):vc P ev H ty K (.field t x f)=((jcf P t (ev x) f).1∧K (jcf P t (ev x) f).2 H):=by simp [vc,jac,vq]
@[go_sem] theorem jkm (x:Operand) (i:Nat):vc P ev H ty K (.extract x i)=((jaM (ev x) i).1∧K (jaM (ev x) i).2 H):=by simp [vc,jac,vq]
@[go_sem] theorem jl2 (t:TypeId) (a:Operand) (lo hi mx:Option Operand):vc P ev H ty K (.slice t a lo hi mx)=((jbs P t (ev a) (lo.map ev) (hi.map ev) (mx.map ev)).1∧K (jbs P t (ev a) (lo.map ev) (hi.map ev) (mx.map ev)).2 H):=by simp [vc,jac,vq]
@[go_sem] theorem jl0 (t:TypeId) (ps:Array (Nat×Operand)):vc P ev H ty K (.build t ps)=((jce P t (ps.toList.map fun p=>(p.1,ev p.2))).1∧K (jce P t (ps.toList.map fun p=>(p.1,ev p.2))).2 H):=by simp [vc,jac,vq]
@[go_sem] theorem jne (as:Array Operand) (ts:Array TypeId):vc P ev H ty K (.call ⟨.builtin .len,as,ts⟩)=((jaA P H .len ts.toList (as.toList.map ev)).1∧K (jaA P H .len ts.toList (as.toList.map ev)).2 H):=by simp [vc,jac,vq]
@[go_sem] theorem jna (t:TypeId) (x y:Operand) (t':TypeId):vc P ev H ty K (.binOp .add t x y t')=((jb5 P .add t (ev x) (ev y)).1∧K (jb5 P .add t (ev x) (ev y)).2 H):=by simp [vc,jac,vq]
@[go_sem] theorem jnf (t:TypeId) (x y:Operand) (t':TypeId):vc P ev H ty K (.binOp .lss t x y t')=((jb5 P .lss t (ev x) (ev y)).1∧K (jb5 P .lss t (ev x) (ev y)).2 H):=by simp [vc,jac,vq]
@[go_sem] theorem jnd (t:TypeId) (x y:Operand) (t':TypeId):vc P ev H ty K (.binOp .gtr t x y t')=((jb5 P .gtr t (ev x) (ev y)).1∧K (jb5 P .gtr t (ev x) (ev y)).2 H):=by simp [vc,jac,vq]
@[go_sem] theorem jnc (t:TypeId) (x y:Operand) (t':TypeId):vc P ev H ty K (.binOp .geq t x y t')=((jb5 P .geq t (ev x) (ev y)).1∧K (jb5 P .geq t (ev x) (ev y)).2 H):=by simp [vc,jac,vq]
@[go_sem] theorem jng (t:TypeId) (x y:Operand) (t':TypeId):vc P ev H ty K (.binOp .neq t x y t')=jbk P true t (ev x) (ev y) H K:=(rfl)
@[go_sem] theorem jnb (t:TypeId) (x:Operand):vc P ev H ty K (.box t x)=jiY H t (ev x) K:=(rfl)
@[go_sem] theorem jlZ (t:TypeId):vc P ev H ty K (.alloc t)=ja5 P H t K:=(rfl)
@[go_sem] theorem jl3 (t:TypeId) (a x:Operand):vc P ev H ty K (.store t a x)=jcI P H t (ev a) (ev x) K:=(rfl)
@[go_sem] theorem jin (t:TypeId) (n:Nat) (ps:Array (Nat×Operand)):vc P ev H ty K (.buildSlice t n ps)=jft P H t n (ps.toList.map fun p=>(p.1,ev p.2)) K:=(rfl)
@[go_sem] theorem jmK (f:Operand) (as:Array Operand) (ts:Array TypeId):vc P ev H ty K (.call ⟨.value f,as,ts⟩)=jaU P (ev f) (as.toList.map ev) H K:=(rfl)
@[go_sem] theorem jlp (t:TypeId) (a x:Operand):vc P ev H ty K (.call ⟨.builtin .append,#[a,x],#[t,t]⟩)=jbE P t t (ev a) (ev x) H K:=by simp [vc]
@[go_sem] theorem jjO (as:Array Operand) (ts:Array TypeId):vc P ev H ty K (.call ⟨.builtin .copy,as,ts⟩)=jaL P .copy ts.toList (as.toList.map ev) H K:=by simp [vc,jac]
end
section
variable {P:Program} {F:List AV} {H:Hp} {g:Bool} {K:AV→Prop}
@[go_sem] theorem jmT (c a b:Operand):vcG P F H g K (.pick c a b)=((g=true→(unG (evA F c)).1=true∧(jaT (evG F c) (evA F a) (evA F b)).1)∧K (.gd g (jaT (evG F c) (evA F a) (evA F b)).2)):=(rfl)
@[go_sem] theorem jmU (op:UnOp) (t:TypeId) (x:Operand):vcG P F H g K (.unOp op t x)=((g=true→okG F (.unOp op t x)=true∧(qUn op (evG F x)).1)∧K (.gd g (qUn op (evG F x)).2)):=by simp [vcG,jad,jac,vq]
@[go_sem] theorem jmR (t:TypeId) (x:Operand):vcG P F H g K (.load t x)=((g=true→okG F (.load t x)=true∧(jb1 P H t (evG F x)).1)∧K (.gd g (jb1 P H t (evG F x)).2)):=by simp [vcG,jad,jac,vq]
@[go_sem] theorem jl6 (t:TypeId) (x i:Operand):vcG P F H g K (.index t x i)=((g=true→okG F (.index t x i)=true∧(jbB P t (evG F x) (evG F i)).1)∧K (.gd g (jbB P t (evG F x) (evG F i)).2)):=by simp [vcG,jad,jac,vq]
@[go_sem] theorem jnk (as:Array Operand) (ts:Array TypeId):vcG P F H g K (.call ⟨.builtin .len,as,ts⟩)=((g=true→okG F (.call ⟨.builtin .len,as,ts⟩)=true∧(jaA P H .len ts.toList (as.toList.map (evG F))).1)∧K (.gd g (jaA P H .len ts.toList (as.toList.map (evG F))).2)):=by simp [vcG,jad,jac,vq]
@[go_sem] theorem jnm (t:TypeId) (x y:Operand) (t':TypeId):vcG P F H g K (.binOp .lss t x y t')=((g=true→okG F (.binOp .lss t x y t')=true∧(jb5 P .lss t (evG F x) (evG F y)).1)∧K (.gd g (jb5 P .lss t (evG F x) (evG F y)).2)):=by simp [vcG,jad,jac,vq]
@[go_sem] theorem jnl (t:TypeId) (x y:Operand) (t':TypeId):vcG P F H g K (.binOp .leq t x y t')=((g=true→okG F (.binOp .leq t x y t')=true∧(jb5 P .leq t (evG F x) (evG F y)).1)∧K (.gd g (jb5 P .leq t (evG F x) (evG F y)).2)):=by simp [vcG,jad,jac,vq]
@[go_sem] theorem jnj (t:TypeId) (x y:Operand) (t':TypeId):vcG P F H g K (.binOp .gtr t x y t')=((g=true→okG F (.binOp .gtr t x y t')=true∧(jb5 P .gtr t (evG F x) (evG F y)).1)∧K (.gd g (jb5 P .gtr t (evG F x) (evG F y)).2)):=by simp [vcG,jad,jac,vq]
@[go_sem] theorem jni (t:TypeId) (x y:Operand) (t':TypeId):vcG P F H g K (.binOp .geq t x y t')=((g=true→okG F (.binOp .geq t x y t')=true∧(jb5 P .geq t (evG F x) (evG F y)).1)∧K (.gd g (jb5 P .geq t (evG F x) (evG F y)).2)):=by simp [vcG,jad,jac,vq]
@[go_sem] theorem jmS (x:Operand):vcG P F H g K (.move x)=((g=true→okG F (.move x)=true)∧K (.gd g (evG F x))):=by simp [vcG,jad,jac,vq]
@[go_sem] theorem jnh (t:TypeId) (x y:Operand) (t':TypeId):vcG P F H g K (.binOp .eql t x y t')=((g=true→okG F (.binOp .eql t x y t')=true∧(jb5 P .eql t (evG F x) (evG F y)).1)∧K (.gd g (jb5 P .eql t (evG F x) (evG F y)).2)):=by simp [vcG,jad,vq]
@[go_sem] theorem jmQ (f:Operand) (as:Array Operand) (ts:Array TypeId):vcG P F H g K (.call ⟨.value f,as,ts⟩)=∃ r,(g=true→okG F (.call ⟨.value f,as,ts⟩)=true∧jaU P (evG F f) (as.toList.map (evG F)) H fun r' H'=>r'=r∧H'=H)∧K (.gd g r):=(rfl)
@[go_sem] theorem jmh (t:Tmp):evA F (.tmp t)=F.getD t .any:=(rfl)
@[go_sem] theorem jkB (v:Value):evA F (.const v)=.raw v:=(rfl)
@[go_sem] theorem jlI (f:FuncId):evA F (.func f)=.raw (.func (.func f) #[] #[]):=(rfl)
@[go_sem] theorem jk5 (d:Tmp) (a:AV):jaw F (some d) a=F.set d a:=(rfl)
@[go_sem] theorem jk4 (a:AV):jaw F none a=F:=(rfl)
end
attribute [go_sem] evG okG unG ja4 jan jad jac jaT jiR jiQ jhK jfi jb5 qUn jb1 jaR jaq jcf jgj jaD jbB jaM jbA jbs jiT jfk jde jfh jg4 jkg jb2 jaA jdV jce jcI jbk jft jaE
attribute [go_sem] ones Op.operands Call.operands jes
section
@[go_sem] theorem jky (cs:List AV):(AV.agg cs).cells=cs:=(rfl)
@[go_sem] theorem jkz (k:IntKind) (n:Int):(AV.raw (.int k n)).cells=[.raw (.int k n)]:=(rfl)
@[go_sem] theorem jiz (s:ByteArray):(AV.raw (.string s)).cells=[.raw (.string s)]:=(rfl)
@[go_sem] theorem jjc (a:Option Addr) (n c:Nat):(AV.raw (.slice a n c)).cells=[.raw (.slice a n c)]:=(rfl)
@[go_sem] theorem jlH (x:Bool) (sz:Nat) (css:List (List AV)) (d:List AV):(AV.sl x sz css d).cells=[.sl x sz css d]:=(rfl)
@[go_sem] theorem jlG (i m k j:Nat):(AV.rs i m k j).cells=[.rs i m k j]:=(rfl)
@[go_sem] theorem jmB (k:IntKind) (n:Int):(AV.raw (.int k n)).one=true:=(rfl)
@[go_sem] theorem jkd (s:ByteArray):(AV.raw (.string s)).one=true:=(rfl)
@[go_sem] theorem jk3 (a:Option Addr) (n c:Nat):(AV.raw (.slice a n c)).one=true:=(rfl)
@[go_sem] theorem jm7 (x:Bool) (sz:Nat) (css:List (List AV)) (d:List AV):(AV.sl x sz css d).one=true:=(rfl)
@[go_sem] theorem jm6 (i m k j:Nat):(AV.rs i m k j).one=true:=(rfl)
end
attribute [go_sem] Hp.get Hp.put jaQ jju jlN jdq entry ids jfp jeI jkj jhM jeH jbN jaB
attribute [go_sem] AV.all jaV noQ AV.flat jgb jk9 jlb jkO je5 jgm jbo jeu jm4 neQ VToL
@[go_sem] theorem jkS (sz:Nat):jgs sz []=True:=by simp [jh4]
@[go_sem] theorem jj6 (sz:Nat) (cs:List AV) (css:List (List AV)):jgs sz (cs::css)=((cs.length=sz∧ones cs=true)∧jgs sz css):=by simp [jgs]
@[go_sem] theorem jmD (q:Nat→Bool):QL q []=True:=by simp [jk7]
@[go_sem] theorem jlR (q:Nat→Bool) (cs:List AV) (css:List (List AV)):QL q (cs::css)=(jaV q cs=true∧QL q css):=by simp [QL]
@[go_sem] theorem jhJ {α:Type} (a b:List α):(a++b).length=a.length+b.length:=by simp
@[go_sem] theorem jhW (i:Nat):([]:List Nat).contains i=false:=(rfl)
@[go_sem] theorem jhF (i j:Nat) (l:List Nat):(j::l).contains i=(i == j || l.contains i):=List.contains_cons
attribute [go_sem] List.getD_cons_zero List.getD_cons_succ List.getD_nil List.set_cons_zero List.set_cons_succ List.set_nil List.map_nil List.map_cons List.getElem?_cons_zero List.getElem?_cons_succ List.getElem?_nil List.getElem?_toArray List.all_nil List.all_cons List.append_nil List.nil_append List.cons_append List.length_cons List.length_nil List.take_succ_cons List.take_zero List.take_nil List.drop_succ_cons List.drop_zero List.drop_nil List.flatten_nil List.flatten_cons
theorem jgE (b:Bool):(b == true)=b:=by cases b<;>rfl
theorem jf4 (b:Bool):(b == false)=!b:=by cases b<;>rfl
attribute [go_sem] if_true if_false true_and and_true false_and and_false Option.map_some Option.map_none Option.getD_some Option.getD_none Option.bind_some Option.bind_none Option.isSome_some Option.isNone_some Option.isNone_none Option.some.injEq Bool.and_true Bool.true_and Bool.and_self Bool.not_true Bool.not_false jgE jf4 Bool.false_eq_true Bool.true_eq_false reduceCtorEq imp_self implies_true forall_const or_true true_or or_self or_false false_or not_true_eq_false not_false_eq_true eq_self ne_eq and_self List.foldl_cons List.foldl_nil Bool.not_eq_true' Bool.or_true Bool.or_false Bool.true_or Bool.false_or decide_true decide_false Nat.zero_add Nat.add_zero Nat.le_refl Int.toNat_natCast
@[go_sem] theorem jj4 (c x:Bool):jjb c x false=(c && x):=by cases c<;>rfl
@[go_sem] theorem jkw (c y:Bool):jjb c true y=(c || y):=by cases c<;>rfl
@[go_sem] theorem jkp (b:Bool):(false ^^ b)=b:=by cases b<;>rfl
def jki (J:List (Nat×AV)) (F:List AV):List AV:=J.foldl (fun F p=>F.set p.1 p.2) F
attribute [go_sem] jki jkc jkX List.replicate_succ List.replicate_zero
def Next (n:Nat) {S:Type} (W:List (Nat×Nat)) (ok:S→Prop) (J:S→List (Nat×AV)) (G:S→Hp) (μ:S→Nat) (F₀ F:List AV) (H:Hp):Prop:=∃ s,μ s < n∧FLe F H (jki (J s) (jkc W F₀)) (G s)∧ok s
theorem jjv {n:Nat} {S:Type} {W:List (Nat×Nat)} {ok:S→Prop} {J:S→List (Nat×AV)} {G:S→Hp} {μ:S→Nat} {F₀ F:List AV} {H:Hp} (s:S) (h1:ok s) (h2:μ s < n) (h4:H=G s) (h3:LLe F (jki (J s) (jkc W F₀))):Next n W ok J G μ F₀ F H:=⟨s,h2,by rw [← h4];exact FLe.pt H h3,h1⟩
theorem jem {P:Program} {c:Code} {Q:Exit→List AV→Hp→Prop} {F:List AV} {H:Hp} {S:Type} (W:List (Nat×Nat)) (ok:S→Prop) (J:S→List (Nat×AV)) (G:S→Hp) (μ:S→Nat) (s₀:S) (h0:ok s₀) (hle:FLe F H (jki (J s₀) (jkc W F)) (G s₀))
  (round:∀ s,ok s→∀ K:List AV→Hp→Prop,(∀ F' H',Next (μ s) W ok J G μ F F' H'→K F' H')→AWP P c (jeR K Q) (jki (J s) (jkc W F)) (G s)):AWP P (.loop c) Q F H:=by
 refine jfC (S:=S) (fun s F' H'=>F'=jki (J s) (jkc W F)∧H'=G s∧ok s) μ s₀ hle ⟨rfl,rfl,h0⟩ ?_
 rintro s F' H' ⟨rfl,rfl,hok⟩
 refine round s hok _ ?_
 rintro F'' H'' ⟨s',h1,h2,h3⟩
 exact ⟨s',_,_,h1,h2,rfl,rfl,h3⟩
theorem jkR {F F':List AV} {H H':Hp} (h1:H=H') (h2:LLe F F'):FLe F H F' H':=by rw [← h1];exact FLe.pt H h2
theorem jiU {P:Program} {fn:Func} {R:AV→List (Nat×Row)→Prop} {F:List AV} {H:Hp} {out:List AV} {e:Exit} (he:e=.normal∨e=.ret) (ho:jdt P H F fn.results.toList=some out) (hok:jaW P H F fn.results.toList) (r:AV) (H':Hp) (hle:RLe (jaF out) H r H') (hR:R r H'.l):jhD P fn R e F H:=by
 rcases he with rfl | rfl<;>exact ⟨out,r,H',ho,hok,hle,hR⟩
theorem jcG {P:Program} {H:Hp} {t:TypeId} {K:AV→Hp→Prop} (i:Nat) {zs:List Value} (hz:jaG P t=some zs) (hi:H.get i=none) (h:K (.pt i 0 0 0) (H.put i (.var t (zs.map .raw)))):ja5 P H t K:=by
 unfold ja5
 rw [hz]
 exact ⟨i,hi,h⟩
theorem jdL {H:Hp} {t:TypeId} {x:AV} {K:AV→Hp→Prop} (i:Nat) (ho:ones x.cells=true) (hi:H.get i=none) (h:K (.pt i 0 0 0) (H.put i (.var t x.cells))):jiY H t x K:=⟨ho,i,hi,h⟩
def nxF:List (Nat×Row)→Nat→Nat
 | [],m=>m
 | (i,_)::l,m=>nxF l (if m≤i then i+1 else m)
def nx (l:List (Nat×Row)):Nat:=nxF l 0
theorem jd3:∀ (l:List (Nat×Row)) (m i:Nat),nxF l m≤i→jaQ l i=none∧m≤i
 | [],m,i,h=>⟨rfl,h⟩
 | (j,r)::l,m,i,h=>by
  obtain ⟨h1,h2⟩:=jd3 l _ i h
  simp only [jaQ]
  split at h2
  ·rw [if_neg (by omega)];exact ⟨h1,by omega⟩
  ·rw [if_neg (by omega)];exact ⟨h1,h2⟩
theorem jd4 (l:List (Nat×Row)) (i:Nat) (h:nx l≤i):jaQ l i=none:=(jd3 l 0 i h).1
attribute [go_sem] nxF
attribute [go_sem] nx
theorem jfs {H:Hp} {A:Nat→Prop} {d:Dep A} (h:A (nx H.l)):jdM H A d:=⟨_,jd4 _ _ (Nat.le_refl _),h⟩
theorem jfq {P:Program} {H:Hp} {t:TypeId} {K:AV→Hp→Prop} {zs:List Value} (hz:jaG P t=some zs) (h:K (.pt (nx H.l) 0 0 0) (H.put (nx H.l) (.var t (zs.map .raw)))):ja5 P H t K:=jcG _ hz (jd4 _ _ (Nat.le_refl _)) h
theorem jhg {H:Hp} {t:TypeId} {x:AV} {K:AV→Hp→Prop} (ho:ones x.cells=true) (h:K (.pt (nx H.l) 0 0 0) (H.put (nx H.l) (.var t x.cells))):jiY H t x K:=jdL _ ho (jd4 _ _ (Nat.le_refl _)) h
theorem jgo {e:TypeId} {sz:Nat} {css:List (List AV)} {H:Hp} {K:AV→Hp→Prop} (h1:jaV noQ css.flatten=true) (h2:K (.sl true sz css []) H):jfu e sz css H K:=.inl ⟨h1,h2⟩
theorem jhk {e:TypeId} {sz:Nat} {css:List (List AV)} {H:Hp} {K:AV→Hp→Prop} (i:Nat) (h0:0 < sz) (hi:H.get i=none) (h2:K (.rs i css.length sz css.length) (H.put i (.vec e sz css))):jfu e sz css H K:=.inr ⟨h0,i,hi,h2⟩
theorem jgn {e:TypeId} {sz:Nat} {css:List (List AV)} {H:Hp} {K:AV→Hp→Prop} (h0:0 < sz) (h2:K (.rs (nx H.l) css.length sz css.length) (H.put (nx H.l) (.vec e sz css))):jfu e sz css H K:=jhk _ h0 (jd4 _ _ (Nat.le_refl _)) h2
theorem jgp {e:TypeId} {sz:Nat} {H:Hp} {K:AV→Hp→Prop} (h0:0 < sz) (h2:K (.rs (nx H.l) 0 sz 0) (H.put (nx H.l) (.vec e sz []))):jfu e sz [] H K:=jgn h0 h2
def VLe (a a':AV):Prop:=∀ (w:NW) v,RelV w a v→RelV w a' v
theorem VLe.refl (a:AV):VLe a a:=fun _ _ h=>h
theorem VLe.sl {x:Bool} {sz:Nat} {css:List (List AV)} {d d':List AV}:VLe (.sl x sz css d) (.sl false sz css d'):=fun w v hr=>by
 cases hr with
 | sl0 _ _ A c _=>exact .sl0 _ _ _ _ (fun e=>by cases e)
 | sl _ _ _ a c vs hn hc hx hsz hb hH hcell hr=>exact .sl _ _ _ a c vs hn hc (fun e=>by cases e) hsz hb hH hcell hr
theorem VLe.nil {sz:Nat} {d:List AV}:VLe (.raw (.slice none 0 0)) (.sl false sz [] d):=fun w v hr=>by
 have:=jab hr
 subst this
 exact .sl0 _ _ _ _ (fun e=>by cases e)
def VLes:List AV→List AV→Prop
 | [],[]=>True
 | a::l,b::m=>VLe a b∧VLes l m
 | _,_=>False
theorem VLes.get:∀ {l m:List AV},VLes l m→l.length=m.length∧∀ (i:Nat) a b,l[i]?=some a→m[i]?=some b→VLe a b
 | [],[],_=>⟨rfl,fun i a b h=>by simp at h⟩
 | x::l,y::m,h=>by
  have ih:=VLes.get h.2
  refine ⟨by simp [ih.1],fun i a b ha hb=>?_⟩
  cases i with
  | zero=>simp at ha hb;subst ha hb;exact h.1
  | succ i=>exact ih.2 i a b (by simpa using ha) (by simpa using hb)
attribute [go_sem] jaF
attribute [go_sem] List.drop_drop List.length_drop Array.toList_append
theorem jjB {P:Program} {fn:Func} {F:List AV} {H:Hp} {out:List AV} {e:Exit} {r:AV} {l:List (Nat×Row)} (he:e=.normal∨e=.ret) (ho:jdt P H F fn.results.toList=some out) (hok:jaW P H F fn.results.toList) (h1:jaF out=r) (h2:H.l=l):jhD P fn (fun r' l'=>r'=r∧l'=l) e F H:=
 jiU he ho hok r H (RLe.of_eq H h1) ⟨rfl,h2⟩
theorem jih {P:Program} {fn:Func} {F:List AV} {H:Hp} {out:List AV} {e:Exit} {r:AV} {l:List (Nat×Row)} (D:Nat→Bool) (he:e=.normal∨e=.ret) (ho:jdt P H F fn.results.toList=some out) (hok:jaW P H F fn.results.toList) (hB:H.B.all (jeu D)=true) (hl:jgm D H.l) (hv:VTo D H (jaF out) r) (h2:jbo D H.l=l):jhD P fn (fun r' l'=>r'=r∧l'=l) e F H:=
 jiU he ho hok r _ (RLe.free D hB hl hv) ⟨rfl,h2⟩
theorem ji0 {D:Nat→Bool} {H:Hp} {a a':AV} (h:a=a') (hq:a.all (jeu D)=true):VTo D H a a':=by subst h;exact .same _ hq
def jbu (B:List Nat):Nat→Bool:=fun i=>!(B.contains i)
theorem jfT {P:Program} {fn:Func} {F:List AV} {H:Hp} {out:List AV} {e:Exit} {r:AV} {l:List (Nat×Row)} (he:e=.normal∨e=.ret) (ho:jdt P H F fn.results.toList=some out) (hok:jaW P H F fn.results.toList) (hl:jgm (jbu H.B) H.l) (hv:VTo (jbu H.B) H (jaF out) r) (h2:jbo (jbu H.B) H.l=l):jhD P fn (fun r' l'=>r'=r∧l'=l) e F H:=
 jih (jbu H.B) he ho hok (by
  rw [List.all_eq_true]
  intro x hx
  simp [jeu,jbu,hx]) hl hv h2
attribute [go_sem] jdt jaW
theorem jeE {P:Program} {fn:Func} {F:List AV} {H:Hp} {out:List AV} {e:Exit} {r:AV} {l:List (Nat×Row)} (rs:List ResultVar) (hrs:fn.results.toList=rs) (he:e=.normal∨e=.ret) (ho:jdt P H F rs=some out) (hok:jaW P H F rs) (hl:jgm (jbu H.B) H.l) (hv:VTo (jbu H.B) H (jaF out) r) (h2:jbo (jbu H.B) H.l=l):jhD P fn (fun r' l'=>r'=r∧l'=l) e F H:=by
 subst hrs
 exact jfT he ho hok hl hv h2
attribute [go_sem] jbu cond_true cond_false jcd
section
variable {P:Program} {ops:Array Oper} {H:Hp}
def jgu (ops:Array Oper) (o:Oper) (F G:List AV):Prop:=(∀ x∈o.op.operands.toList,evA G x=evA F x)∧∀ j b,o.guard=some (j,b)→ja4 ops G j b=ja4 ops F j b
def QV (P:Program) (ops:Array Oper) (o:Oper) (F:List AV) (H:Hp) (r:AV):Prop:=∀ G,jgu ops o F G→AOp P ops o G H fun F' H'=>F'=jaw G o.dst r∧H'=H
theorem jbO {f:AV} {args:List AV} {K K':AV→Hp→Prop} (h:jaU P f args H K) (hk:∀ r H,K r H→K' r H):jaU P f args H K':=by
 unfold jaU at *
 split at h
 ·rcases h with h | h
  ·exact .inl ⟨h.1,h.2.mono hk⟩
  ·exact .inr fun w vs h1 h2=>by
    obtain ⟨v,w',r,H',e,k,g⟩:=h w vs h1 h2
    exact ⟨v,w',r,H',e,hk _ _ k,g⟩
 ·exact h.elim
def jcj (P:Program) (t:TypeId) (n:Nat) (parts:List (Nat×AV)) (K:AV→Prop):Prop:=match elT P t with
 | some e=>match jba P e with
  | some sz=>((parts.length=n∧jes sz 0 parts∧n * sz≤16777216∧(n * sz=0∨(jaG P e).isSome=true))∧jaV noQ (jaB parts).flatten=true)∧K (.sl true sz (jaB parts) [])
  | none=>False
 | none=>False
theorem jhl {t:TypeId} {n:Nat} {parts:List (Nat×AV)} {K:AV→Hp→Prop} (h:jcj P t n parts fun r=>K r H):jft P H t n parts K:=by
 unfold jcj at h
 unfold jft
 split at h
 ·rename_i e he
  split at h
  ·rename_i sz hs
   try simp only [he,hs]
   exact ⟨h.1.1,.inl ⟨h.1.2,h.2⟩⟩
  ·exact h.elim
 ·exact h.elim
theorem jct {t:TypeId} {n:Nat} {parts:List (Nat×AV)} {K:AV→Prop} (h:jcj P t n parts K):∃ r,K r∧∀ K':AV→Prop,K' r→jcj P t n parts K':=by
 unfold jcj at h
 split at h
 ·rename_i e he
  split at h
  ·rename_i sz hs
   exact ⟨_,h.2,fun K' hk=>by unfold jcj;rw [he];simp only [hs];exact ⟨h.1,hk⟩⟩
  ·exact h.elim
 ·exact h.elim
def jgt:Op→Bool
 | .binOp .eql ..=>true
 | .binOp .neq ..=>true
 | _=>false
theorem jgy {o:Oper} {F:List AV} {K:List AV→Hp→Prop} (hg:o.guard=none) (hq:(vq P (evA F) H o.op).1) (hk:K (jaw F o.dst (vq P (evA F) H o.op).2) H):AOp P ops o F H K:=
 ji9 hg (jja (K:=fun r H'=>K (jaw F o.dst r) H') hq hk)
theorem jbL {o:Oper} {F:List AV} (hg:o.guard=none) (hq:(vq P (evA F) H o.op).1):QV P ops o F H (vq P (evA F) H o.op).2:=fun G hG=>by
 have e:vq P (evA G) H o.op=vq P (evA F) H o.op:=jbr _ hG.1
 exact jgy hg (by rw [e];exact hq) ⟨by rw [e],rfl⟩
theorem jg9 {dst:Option Tmp} {f:Operand} {args:Array Operand} {ts:Array TypeId} {ty:TypeId} {pos:String} {after:Array Edge} {F:List AV} {r:AV} (h:jaU P (evA F f) (args.toList.map (evA F)) H fun r' H'=>r'=r∧H'=H) :
  QV P ops ⟨dst,.call ⟨.value f,args,ts⟩,ty,pos,after,none⟩ F H r:=fun G hG=>by
 refine jbR (K:=fun F' H'=>F'=jaw G dst r∧H'=H) rfl ?_
 show jaU P (evA G f) (args.toList.map (evA G)) H _
 rw [hG.1 f (by simp [Op.operands,Call.operands]),List.map_congr_left (g:=evA F) (fun x hx=>hG.1 x (by simp [Op.operands,Call.operands] at hx ⊢;exact .inr hx))]
 exact jbO h fun r' H' ⟨e1,e2⟩=>⟨by rw [e1],e2⟩
theorem jha {dst:Option Tmp} {t:TypeId} {n:Nat} {parts:Array (Nat×Operand)} {ty:TypeId} {pos:String} {after:Array Edge} {F:List AV} {r:AV} (h:jcj P t n (parts.toList.map fun p=>(p.1,evA F p.2)) fun r'=>r'=r) :
  QV P ops ⟨dst,.buildSlice t n parts,ty,pos,after,none⟩ F H r:=fun G hG=>by
 refine jbR (K:=fun F' H'=>F'=jaw G dst r∧H'=H) rfl ?_
 show jft P H t n (parts.toList.map fun p=>(p.1,evA G p.2)) (fun r_1 H'=>jaw G dst r_1=jaw G dst r∧H'=H)
 rw [List.map_congr_left (g:=fun p=>(p.1,evA F p.2)) (fun x hx=>by rw [hG.1 x.2 (by simp [Op.operands] at hx ⊢;exact ⟨_,hx⟩)])]
 refine jhl ?_
 obtain ⟨r',e,hk⟩:=jct h
 subst e
 exact hk _ ⟨rfl,rfl⟩
theorem jdb {F G:List AV} (o:Op) (h:∀ x∈o.operands.toList,evA G x=evA F x):okG G o=okG F o:=by
 unfold okG
 rw [Bool.eq_iff_iff,List.all_eq_true,List.all_eq_true]
 constructor<;>intro hh x hx<;>have:=hh x hx<;>rw [h x hx] at *<;>exact this
def jcB:Op→Bool
 | .pick ..=>true
 | .call { callee:=.invoke ..,.. }=>true
 | _=>false
theorem jbl {F:List AV} {g:Bool} {K:AV→Prop} (o:Op) (h:jan o=false) (hp:jcB o=false):vcG P F H g K o=if jad o then (g=true→okG F o=true∧(vq P (evG F) H o).1)∧K (.gd g (vq P (evG F) H o).2) else False:=by
 cases o
 case call c=>
  obtain ⟨callee,args,ts⟩:=c
  cases callee
  case value f=>cases h
  case invoke f m=>cases hp
  all_goals rfl
 case pick=>cases hp
 all_goals rfl
theorem jed {F:List AV} {g:Bool} {K:AV→Prop} {o:Op} (h:vcG P F H g K o):∃ r,K (.gd g r)∧∀ (G:List AV) (K':AV→Prop),(∀ x∈o.operands.toList,evA G x=evA F x)→K' (.gd g r)→vcG P G H g K' o:=by
 cases hc:jan o with
 | false=>
  by_cases hp:jcB o=true
  ·cases o<;>try cases hp
   case call c=>
    obtain ⟨callee,args,ts⟩:=c
    cases callee<;>try cases hp
    rename_i f m
    obtain ⟨r,h1,h2⟩:=h
    refine ⟨r,h2,fun G K' hG hk=>⟨r,fun hg=>⟨jdb _ hG ▸ (h1 hg).1,?_⟩,hk⟩⟩
    have he:∀ x∈(Op.call ⟨.invoke f m,args,ts⟩).operands.toList,evG G x=evG F x:=fun x hx=>by unfold evG;rw [hG x hx]
    rw [he f (by simp [Op.operands,Call.operands]),List.map_congr_left (g:=evG F) (fun x hx=>he x (by simp [Op.operands,Call.operands] at hx ⊢;exact .inr hx))]
    exact (h1 hg).2
   rename_i c a b
   refine ⟨_,h.2,fun G K' hG hk=>?_⟩
   have he:∀ x∈(Op.pick c a b).operands.toList,evG G x=evG F x:=fun x hx=>by unfold evG;rw [hG x hx]
   show (g=true→(unG (evA G c)).1=true∧(jaT (evG G c) (evA G a) (evA G b)).1)∧K' (.gd g (jaT (evG G c) (evA G a) (evA G b)).2)
   rw [hG c (by simp [Op.operands]),hG a (by simp [Op.operands]),hG b (by simp [Op.operands]),he c (by simp [Op.operands])]
   exact ⟨h.1,hk⟩
  have hp:jcB o=false:=by simpa using hp
  rw [jbl o hc hp] at h
  split at h
  ·rename_i hq
   refine ⟨_,h.2,fun G K' hG hk=>?_⟩
   have he:∀ x∈o.operands.toList,evG G x=evG F x:=fun x hx=>by unfold evG;rw [hG x hx]
   rw [jbl o hc hp,if_pos hq,jbr _ he,jdb o hG]
   exact ⟨h.1,hk⟩
  ·exact h.elim
 | true=>
  cases o<;>try cases hc
  rename_i c
  obtain ⟨callee,args,ts⟩:=c
  cases callee<;>try cases hc
  rename_i f
  obtain ⟨r,h1,h2⟩:=h
  refine ⟨r,h2,fun G K' hG hk=>⟨r,fun hg=>⟨jdb _ hG ▸ (h1 hg).1,?_⟩,hk⟩⟩
  have he:∀ x∈(Op.call ⟨.value f,args,ts⟩).operands.toList,evG G x=evG F x:=fun x hx=>by unfold evG;rw [hG x hx]
  rw [he f (by simp [Op.operands,Call.operands]),List.map_congr_left (g:=evG F) (fun x hx=>he x (by simp [Op.operands,Call.operands] at hx ⊢;exact .inr hx))]
  exact (h1 hg).2
theorem jd7 {o:Oper} {F:List AV} {j:Nat} {want b:Bool} {r:AV} (hg:o.guard=some (j,want)) (hb:ja4 ops F j want=some b) (hq:(jan o.op || jad o.op)=true) (h:vcG P F H b (fun r'=>r'=r) o.op):QV P ops o F H r:=fun G hG=>by
 have hv:vcl P ops (fun F' H'=>F'=jaw G o.dst r∧H'=H) [o] G H:=by
  simp only [vcl,hg,hG.2 j want hg,hb,hq,if_true]
  obtain ⟨r',h1,h2⟩:=jed h
  exact h2 G _ hG.1 ⟨by rw [h1],trivial⟩
 have hs:=jbD [o] G H hv
 intro w tm Q next h1 h2 hn
 have:=hs w tm (fun e a w=>match e with | .normal=>next a w | e=>Q e a w) h1 h2 hn
 simp only [wpList] at this
 unfold jeQ
 split
 ·rename_i hw
  rw [if_pos hw] at this
  rcases this with h | ⟨ha,hl⟩
  ·refine .inl ?_
   unfold Oper.wp at *
   generalize (execOp (Act.mk tm []).eval o).run P w=res at *
   cases res with
   | ok n w'=>
    cases n<;>simp only [Oper.upon] at h ⊢
    case enter f args=>exact Calls.mono h fun e w'' he=>by cases e<;>exact he
    all_goals exact h
   | halt x w'=>cases x<;>simp only [Oper.upon] at h ⊢;exact h
  ·exact .inr ⟨ha,hl⟩
 ·rename_i hw
  rw [if_neg hw] at this
  exact this
def jhO (P:Program) (ops:Array Oper) (H:Hp) (K:List AV→Prop):List Oper→List AV→Prop
 | [],F=>K F
 | o::rest,F=>match o.guard with
  | none=>match o.op with
   | .call { callee:=.value f,args,.. }=>∃ r,(jaU P (evA F f) (args.toList.map (evA F)) H fun r' H'=>r'=r∧H'=H)∧jhO P ops H K rest (jaw F o.dst r)
   | .buildSlice t n parts=>jcj P t n (parts.toList.map fun p=>(p.1,evA F p.2)) fun r=>jhO P ops H K rest (jaw F o.dst r)
   | op=>(vq P (evA F) H op).1∧jhO P ops H K rest (jaw F o.dst (vq P (evA F) H op).2)
  | some (j,want)=>match ja4 ops F j want with
   | some b=>(jan o.op || jad o.op)=true∧vcG P F H b (fun r=>jhO P ops H K rest (jaw F o.dst r)) o.op
   | none=>False
def jlE (P:Program) (ops:Array Oper) (H:Hp) (K:List AV→Prop):List Oper→List AV→List AV→Prop
 | [],F,rs=>rs=[]∧K F
 | o::rest,F,rs=>∃ r rs',rs=r::rs'∧QV P ops o F H r∧jlE P ops H K rest (jaw F o.dst r) rs'
theorem jg8 {K:List AV→Prop}:∀ (l:List Oper) (F:List AV),jhO P ops H K l F→∃ rs,jlE P ops H K l F rs
 | [],F,h=>⟨[],rfl,h⟩
 | o::rest,F,h=>by
  have mk:∀ r,QV P ops o F H r→jhO P ops H K rest (jaw F o.dst r)→∃ rs,jlE P ops H K (o::rest) F rs:=fun r h1 h2=>by
   obtain ⟨rs,h3⟩:=jg8 rest _ h2
   exact ⟨r::rs,r,rs,rfl,h1,h3⟩
  obtain ⟨dst,op,ty,pos,after,guard⟩:=o
  cases guard with
  | none=>
   unfold jhO at h
   simp only at h
   split at h
   ·obtain ⟨r,h1,h2⟩:=h
    exact mk r (jg9 h1) h2
   ·rename_i t n parts
    obtain ⟨r,h1,h2⟩:=jct h
    exact mk r (jha (h2 _ rfl)) h1
   ·exact mk _ (jbL rfl h.1) h.2
  | some g=>
   obtain ⟨j,want⟩:=g
   unfold jhO at h
   simp only at h
   split at h
   ·rename_i b hb
    obtain ⟨hq,hv⟩:=h
    obtain ⟨r,h1,h2⟩:=jed hv
    exact mk _ (jd7 rfl hb hq (r:=.gd b r) (h2 F _ (fun _ _=>rfl) rfl)) h1
   ·exact h.elim
-- the order
def FL (os:List Oper) (rs:List AV) (L:Nat→Bool) (F:List AV):Nat→List AV
 | 0=>F
 | m+1=>if L m then jaw (FL os rs L F m) ((os[m]?).bind (·.dst)) (rs.getD m .any) else FL os rs L F m
def jea (os:List Oper) (rs:List AV) (L:Nat→Bool) (F:List AV) (s:Nat):Nat→AV
 | 0=>F.getD s .any
 | m+1=>if L m=true∧(os[m]?).bind (·.dst)=some s then rs.getD m .any else jea os rs L F s m
theorem jaj (os:List Oper) (rs:List AV) (L:Nat→Bool) (F:List AV):∀ m,(FL os rs L F m).length=F.length
 | 0=>rfl
 | m+1=>by
  unfold FL
  split
  ·rw [← jaj os rs L F m]
   cases (os[m]?).bind (·.dst)<;>simp [jaw]
  ·exact jaj os rs L F m
theorem jcv (os:List Oper) (rs:List AV) (L:Nat→Bool) (F:List AV) {s:Nat} (hs:s < F.length):∀ m,(FL os rs L F m).getD s .any=jea os rs L F s m
 | 0=>rfl
 | m+1=>by
  have ih:=jcv os rs L F hs m
  have hl:=jaj os rs L F m
  unfold FL jea
  cases hd:(os[m]?).bind (·.dst) with
  | none=>
   have hno:¬ (L m=true∧(none:Option Tmp)=some s):=fun h=>by have:=h.2;cases this
   rw [if_neg hno]
   cases hL:L m
   ·exact ih
   ·exact ih
  | some d=>
   cases hL:L m
   ·simpa using ih
   ·simp only [if_true,jaw,true_and,Option.some.injEq]
    by_cases e:d=s
    ·subst e;simp [hl,hs]
    ·rw [if_neg e]
     have:(List.set (FL os rs L F m) d (rs.getD m .any)).getD s .any=(FL os rs L F m).getD s .any:=by simp [List.getElem?_set,e]
     rw [this,ih]
theorem jix {os:List Oper} {rs:List AV} {L L':Nat→Bool} {F:List AV} {m m':Nat} {G:List AV} (hG:G.length=F.length) (h:∀ s,s < F.length→G.getD s .any=jea os rs L F s m):G=FL os rs L F m:=by
 refine List.ext_getElem? fun s=>?_
 rcases Nat.lt_or_ge s F.length with hs | hs
 ·have h1:=h s hs
  rw [← jcv os rs L F hs m] at h1
  have h2:G[s]?=some (G.getD s .any):=by simp [hG,hs]
  have h3:(FL os rs L F m)[s]?=some ((FL os rs L F m).getD s .any):=by simp [jaj,hs]
  rw [h2,h3,h1]
 ·rw [List.getElem?_eq_none (by omega),List.getElem?_eq_none (by rw [jaj];omega)]
def looks (os:List Oper) (o:Oper):List Nat:=
 (o.op.operands.toList.filterMap fun | .tmp t=>some t | _=>none)++
 (match o.guard with
   | some (g,_)=>((os[g]?).bind (·.dst)).toList
   | none=>[])
def nub:List Nat→List Nat
 | []=>[]
 | x::l=>if (nub l).contains x then nub l else x::nub l
theorem je8 {x:Nat}:∀ {l:List Nat},x∈nub l↔x∈l
 | []=>Iff.rfl
 | y::l=>by
  have ih:x∈nub l↔x∈l:=je8
  unfold nub
  split
  ·rename_i h
   rw [ih,List.mem_cons]
   refine ⟨.inr,fun h'=>h'.elim (fun e=>?_) id⟩
   subst e
   exact ih.1 (List.contains_iff_mem.1 h)
  ·rw [List.mem_cons,List.mem_cons,ih]
def jao (acc:List (List Nat)) (o:Oper):List (List Nat):=acc++[nub ((o.after.toList.filter (Region.binds .any)).flatMap fun e=>e.on::acc.getD e.on [])]
def ja7 (os:List Oper):List (List Nat):=os.foldl jao []
def je0 (os:List Oper) (a b:Oper):Bool:=
 (match a.dst with
   | some d=>(looks os b).contains d || b.dst == some d
   | none=>false) ||
 (match b.dst with
   | some d=>(looks os a).contains d
   | none=>false)
def jc3 (os:List Oper):Bool:=
 let ps:=ja7 os
 (List.range os.length).all fun j=>match os[j]? with
  | some b=>(b.after.toList.all fun e=>!Region.binds .any e || decide (e.on < j)) &&
   (List.range j).all fun i=>match os[i]? with
    | some a=>!je0 os a b || (ps.getD j []).contains i
    | none=>true
  | none=>true
theorem jdc:∀ (os:List Oper) (acc:List (List Nat)) (j:Nat),j < acc.length→(os.foldl jao acc)[j]?=acc[j]?
 | [],acc,j,_=>rfl
 | o::os,acc,j,h=>by
  simp only [List.foldl_cons]
  rw [jdc os _ j (by simp [jao];omega)]
  unfold jao
  rw [List.getElem?_append_left h]
theorem jdE:∀ (os:List Oper) (acc:List (List Nat)) (j:Nat) (o:Oper),os[j]?=some o→(os.foldl jao acc).getD (acc.length+j) []=nub ((o.after.toList.filter (Region.binds .any)).flatMap fun e=>e.on::(if e.on < acc.length+j then (os.foldl jao acc).getD e.on [] else []))
 | [],acc,j,o,h=>by simp at h
 | o'::os,acc,0,o,h=>by
  simp only [List.getElem?_cons_zero,Option.some.injEq] at h
  subst h
  simp only [List.foldl_cons,Nat.add_zero]
  have h1:(os.foldl jao (jao acc o')).getD acc.length []=nub ((o'.after.toList.filter (Region.binds .any)).flatMap fun e=>e.on::acc.getD e.on []):=by
   rw [List.getD_eq_getElem?_getD,jdc os _ _ (by simp [jao])]
   unfold jao
   rw [List.getElem?_append_right (Nat.le_refl _)]
   simp
  rw [h1]
  congr 2
  funext e
  congr 1
  split
  ·rename_i hlt
   rw [List.getD_eq_getElem?_getD,List.getD_eq_getElem?_getD,jdc os _ _ (by simp [jao];omega)]
   unfold jao
   rw [List.getElem?_append_left hlt]
  ·rename_i hge
   rw [List.getD_eq_getElem?_getD,List.getElem?_eq_none (by omega)]
   rfl
 | o'::os,acc,j+1,o,h=>by
  simp only [List.foldl_cons]
  have:=jdE os (jao acc o') j o (by simpa using h)
  have e:(jao acc o').length+j=acc.length+(j+1):=by simp [jao];omega
  rw [e] at this
  exact this
theorem jfR {os:List Oper} {j:Nat} {o:Oper} (h:os[j]?=some o):(ja7 os).getD j []=nub ((o.after.toList.filter (Region.binds .any)).flatMap fun e=>e.on::(if e.on < j then (ja7 os).getD e.on [] else [])):=by
 have:=jdE os [] j o h
 simp only [List.length_nil,Nat.zero_add] at this
 exact this
def ja8 (os:List Oper) (L:Nat→Bool):Prop:=∀ j o,os[j]?=some o→L j=true→∀ e∈o.after.toList,Region.binds .any e=true→L e.on=true
theorem jaK {os:List Oper} {L:Nat→Bool} (hc:ja8 os L) (hlt:∀ j o,os[j]?=some o→∀ e∈o.after.toList,Region.binds .any e=true→e.on < j):∀ n j,j < n→∀ o,os[j]?=some o→(∀ e∈o.after.toList,Region.binds .any e=true→L e.on=true)→∀ i∈(ja7 os).getD j [],L i=true:=by
 intro n
 induction n with
 | zero=>intro j hj;omega
 | succ n ih=>
  intro j hj o ho hL i hi
  rw [jfR ho,je8] at hi
  obtain ⟨e,he,hi⟩:=List.mem_flatMap.1 hi
  obtain ⟨he1,he2⟩:=List.mem_filter.1 he
  have hon:=hL e he1 he2
  rcases List.mem_cons.1 hi with rfl | hi
  ·exact hon
  ·rw [if_pos (hlt j o ho e he1 he2)] at hi
   have hlt':=hlt j o ho e he1 he2
   have hjlen:=(List.getElem?_eq_some_iff.1 ho).1
   have ho':os[e.on]?=some (os[e.on]'(by omega)):=List.getElem?_eq_getElem (by omega)
   exact ih e.on (by omega) _ ho' (fun e' h1 h2=>hc _ _ ho' hon e' h1 h2) i hi
theorem jeT (o:Oper) (os:List Oper) (r:AV) (rs:List AV) (F:List AV):∀ m,FL (o::os) (r::rs) (fun _=>true) F (m+1)=FL os rs (fun _=>true) (jaw F o.dst r) m
 | 0=>by simp [FL]
 | m+1=>by
  have ih:=jeT o os r rs F m
  rw [FL,if_pos rfl,ih,FL,if_pos rfl]
  simp
theorem jeA {K:List AV→Prop}:∀ (l:List Oper) (F:List AV) (rs:List AV),jlE P ops H K l F rs→(∀ i o,l[i]?=some o→QV P ops o (FL l rs (fun _=>true) F i) H (rs.getD i .any))∧K (FL l rs (fun _=>true) F l.length)
 | [],F,rs,h=>⟨fun i o hi=>by simp at hi,h.2⟩
 | o::l,F,rs,h=>by
  obtain ⟨r,rs',rfl,h1,h2⟩:=h
  obtain ⟨g1,g2⟩:=jeA l _ rs' h2
  refine ⟨fun i o' hi=>?_,by rw [List.length_cons,jeT];exact g2⟩
  cases i with
  | zero=>
   simp only [List.getElem?_cons_zero,Option.some.injEq] at hi
   subst hi
   exact h1
  | succ i=>
   rw [jeT]
   exact g1 i o' (by simpa using hi)
theorem jbd {os:List Oper} (h:jc3 os=true):(∀ j o,os[j]?=some o→∀ e∈o.after.toList,Region.binds .any e=true→e.on < j)∧
  ∀ i j a b,i < j→os[i]?=some a→os[j]?=some b→je0 os a b=true→i∈(ja7 os).getD j []:=by
 simp only [jc3,List.all_eq_true,List.mem_range] at h
 constructor
 ·intro j o ho e he hb
  have:=h j (List.getElem?_eq_some_iff.1 ho).1
  rw [ho] at this
  simp only [Bool.and_eq_true,List.all_eq_true] at this
  have:=this.1 e he
  simpa [hb] using this
 ·intro i j a b hij ha hb hc
  have:=h j (List.getElem?_eq_some_iff.1 hb).1
  rw [hb] at this
  simp only [Bool.and_eq_true,List.all_eq_true,List.mem_range] at this
  have:=this.2 i hij
  rw [ha] at this
  simp only [hc,Bool.not_true,Bool.false_or] at this
  simpa using this
theorem jeK {os:List Oper} {rs F:List AV} {L:Nat→Bool} {i s:Nat} (hw:∀ k o,os[k]?=some o→o.dst=some s→L k=decide (k < i)):∀ m,jea os rs L F s m=jea os rs (fun _=>true) F s (min m i)
 | 0=>by simp [jea]
 | m+1=>by
  have ih:=jeK (rs:=rs) (F:=F) hw m
  rw [jea]
  by_cases hd:(os[m]?).bind (·.dst)=some s
  ·obtain ⟨o,ho,hs⟩:=Option.bind_eq_some_iff.1 hd
   have hL:=hw m o ho hs
   by_cases hm:m < i
   ·rw [if_pos ⟨by rw [hL];simpa using hm,hd⟩,show min (m+1) i=m+1 by omega,jea,if_pos ⟨rfl,hd⟩]
   ·rw [if_neg (by rw [hL];simp [hm]),ih,show min (m+1) i=min m i by omega]
  ·rw [if_neg (by simp [hd]),ih]
   by_cases hm:m < i
   ·rw [show min (m+1) i=m+1 by omega,show min m i=m by omega,jea,if_neg (by simp [hd])]
   ·rw [show min (m+1) i=min m i by omega]
theorem jeb {os:List Oper} {rs F:List AV} {L L':Nat→Bool} {i s:Nat} {o:Oper} (ho:os[i]?=some o) (hL':∀ k,L' k=(L k || k == i)) (hw:∀ k o',os[k]?=some o'→o'.dst=some s→L k=decide (k < i)) (hs:o.dst=some s):∀ m,i < m→jea os rs L' F s m=rs.getD i .any
 | 0,h=>by omega
 | m+1,h=>by
  rw [jea]
  by_cases hm:m=i
  ·subst hm
   rw [if_pos ⟨by rw [hL'];simp,by rw [ho];exact hs⟩]
  ·rw [if_neg]
   ·exact jeb ho hL' hw hs m (by omega)
   ·rintro ⟨h1,h2⟩
    obtain ⟨o',ho',hs'⟩:=Option.bind_eq_some_iff.1 h2
    rw [hL',hw m o' ho' hs'] at h1
    simp at h1
    omega
theorem jec {os:List Oper} {rs F:List AV} {L L':Nat→Bool} {i s:Nat} {o:Oper} (ho:os[i]?=some o) (hL':∀ k,L' k=(L k || k == i)) (hs:o.dst≠some s):∀ m,jea os rs L' F s m=jea os rs L F s m
 | 0=>rfl
 | m+1=>by
  have ih:=jec (rs:=rs) (F:=F) ho hL' hs m
  rw [jea,jea,ih,hL']
  by_cases hm:m=i
  ·subst hm
   rw [ho]
   simp [hs]
  ·simp [hm]
theorem jew {os:List Oper} {o:Oper} {t:Nat} (h:Operand.tmp t∈o.op.operands.toList):t∈looks os o:=
 List.mem_append_left _ (List.mem_filterMap.2 ⟨_,h,rfl⟩)
theorem jfz {os:List Oper} {o:Oper} {F G:List AV} (hl:F.length=G.length) (h:∀ s∈looks os o,s < F.length→G.getD s .any=F.getD s .any):jgu os.toArray o F G:=by
 have hget:∀ s∈looks os o,G[s]?=F[s]?:=fun s hs=>by
  rcases Nat.lt_or_ge s F.length with h1 | h1
  ·have:=h s hs h1
   have e1:G[s]?=some (G.getD s .any):=by simp [← hl,h1]
   have e2:F[s]?=some (F.getD s .any):=by simp [h1]
   rw [e1,e2,this]
  ·rw [List.getElem?_eq_none (by omega),List.getElem?_eq_none h1]
 constructor
 ·intro x hx
  cases x with
  | tmp t=>simp only [evA,List.getD_eq_getElem?_getD,hget t (jew hx)]
  | const v=>rfl
  | global g=>rfl
  | func f=>rfl
 ·intro j b hg
  unfold ja4
  cases hd:(os.toArray[j]?).bind (·.dst) with
  | none=>rfl
  | some d=>
   simp only
   rw [hget d (List.mem_append_right _ (by rw [hg];simp at hd ⊢;simpa using hd))]
theorem ji8 {l:List Oper} {rs F:List AV} {Q:Exit→List AV→Hp→Prop} (hok:jc3 l=true) (hqv:∀ i o,l[i]?=some o→QV P l.toArray o (FL l rs (fun _=>true) F i) H (rs.getD i .any)) (hK:Q .normal (FL l rs (fun _=>true) F l.length) H) (w0:NW) :
  ∀ (fuel:Nat) (listed:Array Bool),listed.size=l.length→ja8 l (fun i=>listed.getD i false)→(List.range l.length).countP (fun i=>!listed.getD i false)=fuel→
   ∀ (w:NW) tm,RelW w H→RelF w (FL l rs (fun i=>listed.getD i false) F l.length) tm→Ext w0 H w H→wpAny P .any l.toArray (Post Q w0 H) fuel listed ⟨tm,[]⟩ w.toWorld:=by
 obtain ⟨hlt,hcl⟩:=jbd hok
 -- when all are done
 have fin:∀ (listed:Array Bool),(∀ i,i < l.length→listed.getD i false=true)→∀ (w:NW) tm,RelW w H→RelF w (FL l rs (fun i=>listed.getD i false) F l.length) tm→Ext w0 H w H→Post Q w0 H .normal ⟨tm,[]⟩ w.toWorld:=by
  intro listed hall w tm h1 h2 h3
  have e:FL l rs (fun i=>listed.getD i false) F l.length=FL l rs (fun _=>true) F l.length:=by
   have gen:∀ m,m≤l.length→FL l rs (fun i=>listed.getD i false) F m=FL l rs (fun _=>true) F m:=by
    intro m
    induction m with
    | zero=>intro _;rfl
    | succ m ih=>intro hm;rw [FL,FL,ih (by omega),hall m (by omega)]
   exact gen _ (Nat.le_refl _)
  rw [e] at h2
  exact ⟨tm,_,H,w,rfl,rfl,hK,h1,h2,h3.toB⟩
 intro fuel
 induction fuel with
 | zero=>
  intro listed hsz hcls hcnt w tm h1 h2 h3
  have hall:∀ i,i < l.length→listed.getD i false=true:=fun i hi=>by
   have:=(List.countP_eq_zero.1 hcnt) i (List.mem_range.2 hi)
   simpa using this
  refine ⟨?_,fin listed hall w tm h1 h2 h3⟩
  rw [List.eq_nil_iff_forall_not_mem]
  intro j hj
  obtain ⟨hj0,o,ho,_⟩:=mem_ready.1 hj
  have hjl:j < l.length:=by have:=(Array.getElem?_eq_some_iff.1 ho).1;simpa using this
  have:=hall j hjl
  simp [hsz,hjl] at this hj0
  rw [this] at hj0;cases hj0
 | succ fuel ih=>
  intro listed hsz hcls hcnt w tm h1 h2 h3
  refine ⟨fun hnil=>?_,fun i hi=>?_⟩
  ·-- some operation is ready
   exfalso
   have hex:∃ i,i < l.length∧listed.getD i false=false:=by
    have hpos:0 < (List.range l.length).countP (fun i=>!listed.getD i false):=by omega
    obtain ⟨i,hi,hp⟩:=List.countP_pos_iff.1 hpos
    exact ⟨i,List.mem_range.1 hi,by simpa using hp⟩
   obtain ⟨i,⟨hi,hf⟩,hleast⟩:=exists_least hex
   have ho:l[i]?=some l[i]:=List.getElem?_eq_getElem hi
   have:i∈Region.ready .any l.toArray listed:=mem_ready.2 ⟨by simp [hsz,hi] at hf ⊢;exact hf,l[i],by simp [hi],fun e he hb=>by
    have h4:=hlt i _ ho e (by simpa using he) hb
    cases hv:listed.getD e.on false with
    | true=>rfl
    | false=>have:=hleast e.on ⟨by omega,hv⟩;omega⟩
   rw [hnil] at this
   cases this
  ·obtain ⟨hi0,o,ho,hpre⟩:=mem_ready.1 hi
   have ho':l[i]?=some o:=by simpa using ho
   have hil:=(List.getElem?_eq_some_iff.1 ho').1
   have hif:listed.getD i false=false:=by simp [hsz,hil] at hi0 ⊢;exact hi0
   have hpre':∀ e∈o.after.toList,Region.binds .any e=true→listed.getD e.on false=true:=fun e he hb=>hpre e (by simpa using he) hb
   have hbefore:=jaK hcls hlt (i+1) i (by omega) o ho' hpre'
   -- who writes where o touches
   have hwr:∀ k o' s,l[k]?=some o'→o'.dst=some s→(s∈looks l o∨o.dst=some s)→listed.getD k false=decide (k < i):=by
    intro k o' s hk hs hcase
    rcases Nat.lt_trichotomy k i with h | h | h
    ·rw [decide_eq_true h]
     refine hbefore k (hcl k i o' o h hk ho' ?_)
     unfold je0
     rw [hs]
     rcases hcase with h5 | h5
     ·simp [h5]
     ·simp [h5]
    ·subst h;simpa using hif
    ·rw [decide_eq_false (by omega)]
     cases hv:listed.getD k false with
     | false=>rfl
     | true=>
      have hki:i∈(ja7 l).getD k []:=hcl i k o o' h ho' hk (by
       unfold je0
       rw [hs]
       rcases hcase with h5 | h5
       ·simp [h5]
       ·simp [h5])
      have:=jaK hcls hlt (k+1) k (by omega) o' hk (fun e he hb=>hcls k o' hk hv e he hb) i hki
      rw [hif] at this;cases this
   have hag:jgu l.toArray o (FL l rs (fun _=>true) F i) (FL l rs (fun i=>listed.getD i false) F l.length):=by
    refine jfz (by rw [jaj,jaj]) fun s hs hlen=>?_
    rw [jaj] at hlen
    rw [jcv _ _ _ _ hlen,jcv _ _ _ _ hlen,jeK (fun k o' hk hd=>hwr k o' s hk hd (.inl hs)),show min l.length i=i by omega]
   have hop:=hqv i o ho' _ hag
   have hL':∀ k,(listed.setIfInBounds i true).getD k false=(listed.getD k false || k == i):=fun k=>by
    by_cases hk:k=i
    ·subst hk;simp [hsz,hil]
    ·simp [Array.getElem?_setIfInBounds_ne (Ne.symm hk),hk]
   have hnext:jaw (FL l rs (fun i=>listed.getD i false) F l.length) o.dst (rs.getD i .any)=FL l rs (fun k=>(listed.setIfInBounds i true).getD k false) F l.length:=by
    refine jix (m':=0) (L':=fun _=>true) (by cases o.dst<;>simp [jaw,jaj]) fun s hs=>?_
    by_cases hd:o.dst=some s
    ·rw [jeb (L:=fun i=>listed.getD i false) ho' hL' (fun k o' hk hd'=>hwr k o' s hk hd' (.inr hd)) hd _ hil,hd]
     simp [jaw,jaj,hs]
    ·rw [jec (L:=fun i=>listed.getD i false) ho' hL' hd,← jcv _ _ _ _ hs]
     cases hd':o.dst with
     | none=>rfl
     | some d=>
      have:d≠s:=fun e=>hd (by rw [hd',e])
      simp [jaw,List.getElem?_set,this]
   have:=hop w tm (Post Q w0 H) (wpAny P .any l.toArray (Post Q w0 H) fuel (listed.setIfInBounds i true)) h1 h2 (by
    rintro tm' w' F' H' ⟨rfl,rfl⟩ g1 g2 g3
    refine ih (listed.setIfInBounds i true) (by simpa using hsz) ?_ ?_ w' tm' g1 (by rw [← hnext];exact g2) (h3.trans g3)
    ·intro j o' hj hLj e he hb
     simp only [hL'] at hLj ⊢
     rcases Bool.or_eq_true_iff.1 hLj with h6 | h6
     ·have h7:listed.getD e.on false=true:=hcls j o' hj h6 e he hb
      rw [h7];rfl
     ·obtain rfl:j=i:=by simpa using h6
      rw [ho'] at hj;cases hj
      rw [hpre' e he hb];rfl
    ·have:∀ (n:Nat),i < n→(List.range n).countP (fun k=>!(listed.setIfInBounds i true).getD k false)+1=(List.range n).countP (fun k=>!listed.getD k false):=by
      intro n
      induction n with
      | zero=>intro h;omega
      | succ n ihn=>
       intro h
       rw [List.range_succ,List.countP_append,List.countP_append]
       by_cases hn:n=i
       ·subst hn
        have:(List.range n).countP (fun k=>!(listed.setIfInBounds n true).getD k false)=(List.range n).countP (fun k=>!listed.getD k false):=by
         refine List.countP_congr fun k hk=>?_
         rw [hL']
         have:k≠n:=by have:=List.mem_range.1 hk;omega
         simp [this]
        rw [this]
        simp only [List.countP_singleton,hL',hif]
        simp
       ·rw [← ihn (by omega)]
        simp only [List.countP_singleton,hL']
        have:(n == i)=false:=by simpa using hn
        rw [this,Bool.or_false]
        omega
     have:=this l.length hil
     omega)
   unfold wpOp
   rw [ho]
   exact this
theorem jcY {id:Nat} {l:List Oper} {F:List AV} {Q:Exit→List AV→Hp→Prop} (hm:P.follows .mixedOrders=true) (hok:jc3 l=true) (h:jhO P l.toArray H (fun F'=>Q .normal F' H) l F):AWP P (.region id l.toArray true) Q F H:=fun w tm h1 h2=>by
 obtain ⟨rs,hrun⟩:=jg8 l F h
 obtain ⟨hqv,hK⟩:=jeA l F rs hrun
 have hz:∀ i,(Array.replicate l.toArray.size false).getD i false=false:=fun i=>by
  by_cases hi:i < l.length<;>simp [Array.getElem?_replicate,hi]
 refine wp_region_any hm ?_
 have e0:FL l rs (fun i=>(Array.replicate l.toArray.size false).getD i false) F l.length=F:=by
  have gen:∀ m,FL l rs (fun i=>(Array.replicate l.toArray.size false).getD i false) F m=F:=by
   intro m
   induction m with
   | zero=>rfl
   | succ m ih=>rw [FL,hz,if_neg (by simp),ih]
  exact gen _
 exact ji8 hok hqv hK w l.toArray.size (Array.replicate l.toArray.size false) (by simp) (fun j o _ hj=>by have:=(hz j).symm.trans hj;cases this) (by
  rw [List.countP_eq_length.2 (fun i _=>by rw [hz];rfl)]
  simp) (w.to w.drew) tm h1.drew (by rw [e0];exact h2.ext (Ext.drew w H)) (Ext.drew w H)
end
section
variable {P:Program} {ops:Array Oper} {H:Hp} {K:List AV→Prop} {F:List AV} {dst:Option Tmp} {ty:TypeId} {pos:String} {after:Array Edge} {rest:List Oper}
end
end Go.Gd
