/- Calls whose things are read from then on. What a program means: what holds along a run. What a program means: a step, from states that are read to states that are read. What a program means: the beginning, and a run. What a program means: a run. No conditions. -/
import Derived.Test.YtdekkklnfifphaaGreatDoorGdQ
import Derived.Test.YtdekkklnfifphaaGreatDoorViO
import Derived.Test.YtdekkklnfifphaaGreatDoorViX
import Derived.Test.YtdekkklnfifphaaGreatDoorSoC
set_option linter.all false
namespace Go.Gd
open Go
theorem jiu:∀ (l:List (Nat×Row)),jeq (fun _=>true) l
 | []=>trivial
 | _::l=>⟨.inl rfl,jiu l⟩
theorem jgD:∀ (l:List (Nat×Row)),ja7 (fun _=>true) l=[]
 | []=>rfl
 | x::l=>jgD l
theorem PCall.ofA {P:Program} {f:FuncId} {args:List AV} {r0 r1:AV} {l0:List (Nat×Row)} (hc:ACalls P f args [] fun r l=>r=r0∧l=l0) (hv:VTo (fun _=>true) ⟨[],l0⟩ r0 r1):PCall P f args r1:=fun w vs h1 h2=>by
 refine (hc w vs h1 h2).mono ?_
 rintro e W ⟨v,r,⟨B,l⟩,w',rfl,e1,⟨rfl,rfl⟩,g1,g2,g3⟩
 have hB:B=[]:=g3.base
 subst hB
 obtain ⟨w2,k1,k2,k3,k4⟩:=RLe.free (fun _=>true) rfl (jiu _) hv w' v g1 g2
 refine ⟨v,r1,_,w2,k1.symm,e1,⟨rfl,jgD _⟩,k2,k3,g3.trans k4⟩
end Go.Gd
namespace Go.Proofs.YtdekkklnfifphaaGreatDoor
open Go Go.Gd
theorem jqJ {p:GProg} (hs:SOk p):∃ m:Nat,m < p.tree.fns.length∧jdV p=(m:Int)∧(nth p.tree.fns m).name=(⟨#[109,97,105,110]⟩:ByteArray)∧(nth p.tree.fns m).params.length=0:=by
 obtain ⟨j,hj,hmain⟩:=hs.names.main
 unfold ji6 at hmain
 simp only [Bool.and_eq_true,decide_eq_true_eq] at hmain
 obtain ⟨⟨g1,g2⟩,_⟩:=hmain
 obtain ⟨f1,f2,f3⟩:=jmx GFunc.name (⟨#[109,97,105,110]⟩:ByteArray) p.tree.fns 0 ⟨_,jam hj,g1⟩
 have e:(jcQ GFunc.name (⟨#[109,97,105,110]⟩:ByteArray) p.tree.fns 0 - 0).toNat=(jdV p).toNat:=by unfold jdV;simp
 rw [e] at f3
 have hlo:0≤jdV p:=f1
 have hhi:jdV p < 0+p.tree.fns.length:=f2
 have hm:(jdV p).toNat < p.tree.fns.length:=by omega
 have hjm:j=(jdV p).toNat:=by
  rcases Nat.lt_trichotomy j (jdV p).toNat with h | h | h
  ·exact (hs.names.one _ _ h hm (by rw [g1,f3])).elim
  ·exact h
  ·exact (hs.names.one _ _ h hj (by rw [g1,f3])).elim
 exact ⟨(jdV p).toNat,hm,by omega,f3,by rw [← hjm];omega⟩
def jkH (p:GProg):RS:=RS.of { jrG with frames:=[jbP p (jdV p) []] }
theorem jfL {p:GProg} (hs:SOk p):After p (jkH p):=by
 obtain ⟨m,hm,hidx,_,hpar⟩:=jqJ hs
 have hf:=(jhV hs hm (args:=[]) (by rw [hpar];rfl)).1
 refine ⟨⟨RS.of_ok _,?_,fun k hk=>?_,fun k hk=>?_,fun _=>?_⟩,?_,?_,?_,?_⟩
 ·show 1≤8;omega
 ·have hk:k < 1:=hk
  have:k=0:=by omega
  subst this
  show FrOk p (jbP p (jdV p) [])
  rw [hidx];exact hf
 ·have hk:k+1 < 1:=hk
  omega
 ·show 1≤1;omega
 ·show jbB []≤40;decide
 ·show 0≤24;omega
 ·show (0:Int)≤0;omega
 ·show (0:Int)≤1000;omega
theorem juX {p:GProg}:RngR (jkH p):=⟨fun f hf=>by
 have hf:f∈[jbP p (jdV p) []]:=hf
 rw [List.mem_singleton] at hf;subst hf
 exact jlM p _ fun v hv=>(by cases hv),fun l hl=>by cases hl⟩
theorem jtG (p:GProg):jjq p=((jkH p).settle p).st:=rfl
structure jkI (p:GProg) (n:Nat) (s:GState):Prop where
 inv:StInv p s
 rng:RngS s
 t0:0≤s.time
 t1:s.time≤n
theorem jpm {p:GProg} (hs:SOk p):jkI p 0 (jjq p):=by
 have k:=jdo p ((jkH p).left+1) (jkH p)
 have e:(jjq p).time=0:=k.time
 exact ⟨(jfL hs).settled,(RngR.settle _ juX).st,by omega,by omega⟩
structure Grew (R R':RS):Prop where
 time:R'.time=R.time
 frs:R.frs.length≤R'.frs.length
 heap:R.heap.length≤R'.heap.length
theorem Grew.refl (R:RS):Grew R R:=⟨rfl,Nat.le_refl _,Nat.le_refl _⟩
theorem Grew.trans {a b c:RS} (h:Grew a b) (k:Grew b c):Grew a c:=⟨k.time.trans h.time,Nat.le_trans h.frs k.frs,Nat.le_trans h.heap k.heap⟩
theorem jfT (R:RS) (k:Nat) (f:GFrame):Grew R (R.upd k f):=⟨rfl,Nat.le_of_eq RS.upd_len,Nat.le_refl _⟩
theorem jeD (R:RS):Grew R R.on:=jfT _ _ _
theorem jgy (R:RS) (p:GProg) (a:Int) (v:GValue):Grew R (R.store p a v):=(jfT R _ _).trans (jeD _)
theorem ji3 (R:RS) (p:GProg) (v:GValue):Grew R (R.tells p v):=by
 have hp:Grew R R.pop:=⟨rfl,Nat.le_refl _,Nat.le_refl _⟩
 unfold RS.tells
 split
 ·exact ⟨rfl,Nat.le_refl _,Nat.le_refl _⟩
 split
 ·exact hp.trans ((jfT _ _ _).trans (jeD _))
 ·exact hp.trans (jeD _)
theorem jqn (R:RS) (f:GFrame):Grew R (R.push f):=⟨rfl,by show R.frs.length≤(R.frs++[f]).length;simp,Nat.le_refl _⟩
theorem jk1 (R:RS) (p:GProg) (a:Int):Grew R (R.call p a).1:=by
 unfold RS.call
 simp only
 split
 ·exact .refl _
 split
 ·exact .refl _
 ·exact jqn _ _
theorem ji2 (R:RS) (p:GProg) (a:Int):Grew R (R.fresh p a).1:=by
 unfold RS.fresh
 simp only
 (repeat' split)<;>first | exact .refl _ | exact ⟨rfl,Nat.le_refl _,by simp⟩
theorem joY (R:RS) (p:GProg) (a:Int) (inp:List Int):Grew R (R.right p a inp).1:=by
 unfold RS.right
 simp only
 split
 ·exact jk1 _ _ _
 split
 ·exact (show Grew R { R with in_:=R.in_+1 } from ⟨rfl,Nat.le_refl _,Nat.le_refl _⟩).trans (jgy _ _ _ _)
 split
 ·split
  ·exact (ji2 _ _ _).trans (jgy _ _ _ _)
  ·exact ji2 _ _ _
 split
 ·exact jgy _ _ _ _
 ·exact .refl _
theorem jsW (R:RS) (p:GProg) (a:Int):Grew R (R.put p a).1:=by
 unfold RS.put
 simp only
 (repeat' split)<;>first | exact .refl _ | exact (show Grew R { R with heap:=R.heap.set _ _ } from ⟨rfl,Nat.le_refl _,by simp⟩).trans (jeD _)
theorem jqm (R:RS) (p:GProg) (a:Int) (inp:List Int):Grew R (R.does p a inp).1:=by
 unfold RS.does
 simp only
 split
 ·exact joY _ _ _ _
 split
 ·exact jk1 _ _ _
 split
 ·exact jsW _ _ _
 split
 ·(repeat' split)<;>first | exact .refl _ | exact ji3 _ _ _
 split
 ·exact .refl _
 split
 ·split
  ·exact .refl _
  ·exact (show Grew R { R with out_:=R.out_++[_] } from ⟨rfl,Nat.le_refl _,Nat.le_refl _⟩).trans (jeD _)
 split
 ·(repeat' split)<;>first | exact (jeD _).trans (jfT _ _ _) | exact jeD _
 split
 ·(repeat' split)<;>first | exact jfT _ _ _ | exact jeD _
 ·exact .refl _
theorem jd9 (p:GProg):∀ (n:Nat) (R:RS),Grew R (jbM p n R)
 | 0,R=>.refl R
 | n+1,R=>by
  unfold jbM
  split
  ·exact .refl R
  split
  ·exact (ji3 R p _).trans (jd9 p n _)
  split
  ·exact .refl R
  ·exact (show Grew R R.cut from ⟨rfl,by show R.frs.length≤(R.frs.set _ _).length;simp,Nat.le_refl _⟩).trans (jd9 p n _)
theorem jrJ {p:GProg} {s:GState} {inp:List Int}:(jeR p s inp).time=s.time∨(jeR p s inp).time=s.time+1:=by
 unfold jeR
 split
 ·exact .inl rfl
 split
 ·exact .inl rfl
 simp only
 split
 ·exact .inr rfl
 ·exact .inr (jdo p _ _).time
theorem jrI {p:GProg} (hs:SOk p) {n:Nat} {s:GState} (h:jkI p n s) {inp:List Int} (hn:inp.length≤1000) (hi:∀ x∈inp,Go.Gd.rng x):jkI p (n+1) (jeR p s inp):=by
 have ht:=@jrJ p s inp
 have:=h.t0
 have:=h.t1
 exact ⟨jws hs h.inv hn,jtH hs h.inv h.rng hi,by omega,by omega⟩
theorem jga {p:GProg} (hs:SOk p) {inp:List Int} (hn:inp.length≤1000) (hi:∀ x∈inp,Go.Gd.rng x):∀ n,jkI p n (joh p inp n)
 | 0=>jpm hs
 | n+1=>jrI hs (jga hs hn hi n) hn hi
theorem StInv.fits {p:GProg} (hs:SOk p) {s:GState} (h:StInv p s):Fits s:=by
 have h2:=jbm s.heap
 have h3:=h.cells
 refine ⟨h.inv.frs,by omega,h.outs,fun k hk=>?_,fun k hk=>?_⟩
 ·have hf:FrOk p (nth s.frames k):=h.inv.fr k hk
  have h0:=hf.f0
  have h1:=hf.f1
  have hz:=(hs.fns (nth s.frames k).fn.toNat (by omega)).hi
  have:=hf.sl
  exact ⟨by omega,hf.len hs⟩
 ·have:=jeA s.heap k hk;omega
end Go.Proofs.YtdekkklnfifphaaGreatDoor
namespace Go.Gd
open Go
theorem RS.rows_nodup (R:RS):(ids R.rows).Nodup:=by
 have:=RS.nodup (t:=0) (pre:=[]) (post:=[]) (R:=R)
 exact (List.nodup_cons.1 this).2
theorem RS.e_perm {t:TypeId} {pre post:List AV} {R:RS} {tl:List (Nat×Row)} {c:List AV} (hc:c=pre++R.c++post) (h0:jas tl 0=none) (i:Nat):jas (R.rowsT (tl++[(0,.var t c)])) i=jas (R.e t pre post tl) i:=by
 subst hc
 rw [RS.e_rows,RS.rowsT_app,← List.append_assoc,← RS.rowsT_app]
 exact jnR (by rw [RS.rowsT_get _ _ _ (.inl rfl) (by omega),h0]) i
theorem cR {P:Program} {f:FuncId} {args:List AV} {H:Hp} {K:AV→Hp→Prop} {R:RS} {r0:AV} {tl:List (Nat×Row)} (hc:ACalls P f args [] fun r l=>r=r0∧l=R.rows) (hH:H=⟨[],tl⟩) (hl:low tl) (h2:jaQ noQ args=true) (h0:jaf P f=true) (k:K r0 ⟨[],R.rowsT tl⟩):jbT P (.raw (.func (.func f) #[] #[])) args H K:=by
 subst hH
 refine jbF h0 fun w vs h1 h3=>?_
 have hno:∀ i r,jas R.rows i=some r→jas tl i=none:=fun i r hi=>by
  cases e:jas tl i with
  | none=>rfl
  | some x=>
   have:=hl i x e
   rw [RS.rows_no i (.inr this.1) this.2] at hi;cases hi
 refine (jfq (H:=⟨[],tl⟩) (K:=fun r H'=>r=r0∧∃ l',H'=⟨[],l'⟩∧∀ i,jas l' i=jas (R.rowsT tl) i) hc (fun i r hi=>by cases hi) (by simpa [ids] using h2) (fun i r hi=>by cases hi) (fun r l' ⟨e1,e2⟩=>⟨fun i s hs=>?_,by rw [e2];exact R.rows_nodup,e1,_,rfl,fun i=>?_⟩) h1 h3).mono ?_
 ·subst e2
  exact .inr (hno i s hs)
 ·subst e2
  rw [jdd _ _ _ (fun _ _ _=>trivial) R.rows_nodup,RS.rowsT_app,jcN]
 ·rintro e W ⟨v,r,H',w',rfl,rfl,⟨rfl,l',rfl,hl'⟩,g1,g2,g3⟩
  exact ⟨v,_,⟨[],R.rowsT tl⟩,w',rfl,rfl,k,jiq hl' g1,g2,{ g3 with base:=rfl }⟩
theorem jmC {P:Program} {f:FuncId} {args:List AV} {B:List Nat} {l l':List (Nat×Row)} {K:AV→Hp→Prop} (h:∀ i,jas l i=jas l' i) (k:HCalls P f args ⟨B,l'⟩ K):HCalls P f args ⟨B,l⟩ K:=fun w vs h1 h2=>by
 refine (k w vs (jiq h h1) h2).mono ?_
 rintro e W ⟨v,r,H',w',e0,e1,k,g1,g2,g3⟩
 exact ⟨v,r,H',w',e0,e1,k,g1,g2,{ g3.toExtQ with base:=g3.base }⟩
theorem RS.e_perm2 {t:TypeId} {pre post:List AV} {R:RS} {tl tl':List (Nat×Row)} {c:List AV} (h0:jas tl 0=some (.var t c)) (hc:c=pre++R.c++post) (h:∀ i,i≠0→jas tl i=jas tl' i) (i:Nat):jas (R.rowsT tl) i=jas (R.e t pre post tl') i:=by
 subst hc
 by_cases e:i=0
 ·subst e
  rw [RS.rowsT_get _ _ _ (.inl rfl) (by omega),h0,RS.get0]
 ·rw [RS.e_rows]
  show _=if i=0 then _ else _
  rw [if_neg e,RS.rowsT_app,RS.rowsT_app,jcN,jcN,h i e]
theorem cEp {P:Program} {f:FuncId} {args:List AV} {H:Hp} {K:AV→Hp→Prop} {t:TypeId} {pre post pre' post':List AV} {R R':RS} {r0:AV} {B:List Nat} {l tl:List (Nat×Row)} (hc:ACalls P f args (R.e t pre post []) fun r l'=>r=r0∧l'=R'.e t pre' post' []) (hH:H=⟨B,l⟩) (hperm:∀ i,jas l i=jas (R.e t pre post tl) i)
  (h1:R.frs.length≤R'.frs.length) (h2:R.heap.length≤R'.heap.length) (hp:jaQ noQ pre=true) (hq:jaQ noQ post=true) (hl:low tl) (ha:jaQ (fun i=>decide (i=0)) args=true) (h0:jaf P f=true) (k:K r0 ⟨B,R'.e t pre' post' tl⟩):jbT P (.raw (.func (.func f) #[] #[])) args H K:=by
 subst hH
 refine jbF h0 (jmC hperm (jgz (E:=fun tl=>R.e t pre post tl) (E':=fun tl=>R'.e t pre' post' tl) hc (RS.lays hl) (RS.lays hl) RS.nodup (jbA (fun i hi=>?_) _ ha) (RS.closed hp hq) k (RS.size h1 h2)))
 have:i=0:=of_decide_eq_true hi
 subst this
 exact jen RS.get0
theorem RS.vtoR {R:RS} (h:R.Ok):VTo (fun _=>true) ⟨[],R.rows⟩ (.agg R.c) (.agg (jal R.st)):=by
 have hnf:=h.nf
 have g:∀ {i:Nat} {r:Row},jas (R.e 0 [] [] []) i=some r→i≠0→(Hp.mk [] R.rows).get i=some r:=fun {i r} e h=>by
  have e:(if i=0 then _ else jas R.rows i)=some r:=e
  rw [if_neg h] at e;exact e
 have gf:∀ {a k:Nat} {r:Row},jas (R.e 0 [] [] []) (fid a k)=some r→(Hp.mk [] R.rows).get (fid a k)=some r:=fun {a k r} e=>g e (by have:=jcx a k;omega)
 refine VToL.agg (ds:=jal R.st) ⟨?_,?_,.same _ rfl,?_,.same _ rfl,.same _ rfl,.same _ rfl,True.intro⟩
 ·refine .rsc _ 1 3 _ _ 86 _ _ rfl (g RS.get1 (by decide)) (by simp [go_sem]) hnf (by show (List.map _ (R.frs.take R.nf)).length=_;simp;omega) (fun ds hds=>?_) (jcB (enc:=jbG) (sz:=3) _) fun k j c d hk h1 h2=>?_
  ·obtain ⟨x,_,rfl⟩:=List.mem_map.1 hds;rfl
  ·rw [jgg _ _ _ (by omega)] at h1
   have hk':k < (R.frs.take R.nf).length:=by simp;omega
   have e2:(List.map jbG (R.frs.take R.nf)).getD k []=jbG (nth R.frs k):=by
    rw [jeC _ _ _ hk',jbc hk',jbc (by omega)];simp
   have h2:((List.map jbG (R.frs.take R.nf)).getD k [])[j]?=some d:=h2
   rw [e2] at h2
   unfold RS.fr at h1
   match j with
   | 0=>cases h1;cases h2;exact .same _ rfl
   | 1=>cases h1;cases h2;exact .row _ rfl (gf (RS.getS (by omega))) rfl
   | 2=>cases h1;cases h2;exact .rowCut _ _ rfl (gf (RS.getP (by omega))) rfl rfl
   | j+3=>simp at h1
 ·refine .rs _ 2 1 _ 22 _ _ rfl (g RS.get2 (by decide)) (by simp [go_sem]) (by simp [go_sem];rfl) (fun ds hds=>?_) (jcB (enc:=eLI) (sz:=1) _) fun k j c d hk h1 h2=>?_
  ·obtain ⟨x,_,rfl⟩:=List.mem_map.1 hds;rfl
  ·have hk:k < R.heap.length:=by simpa [go_sem] using hk
   rw [jgg _ _ _ hk] at h1
   have h2:((List.map eLI R.heap).getD k [])[j]?=some d:=h2
   rw [jeC _ _ _ hk] at h2
   match j with
   | 0=>cases h1;cases h2;exact .row _ rfl (gf (RS.getH hk)) rfl
   | j+1=>simp at h1
 ·exact .row _ rfl (g RS.get3 (by decide)) rfl
theorem jlI {P:Program} {fn:Func} {F:List AV} {l:List (Nat×Row)} {H:Hp} {out:List AV} {e:Exit} {r:AV} (rs:List ResultVar) (hH:H=⟨[],l⟩) (hv:VTo (fun _=>true) H (jbx out) r) (hrs:fn.results.toList=rs:=by rfl) (he:e=.normal∨e=.ret:=by first | exact Or.inr rfl | exact Or.inl rfl | fail)
  (ho:jhc P H F rs=some out:=by first | rfl | (simp (disch:=first | omega | fail) only [go_sem,↓reduceIte,Nat.reduceEqDiff,Nat.reduceLeDiff,Nat.reduceSub,Nat.reduceAdd];rfl)) (hok:jb2 P H F rs:=by first | exact True.intro | (simp (disch:=first | omega | fail) only [go_sem,↓reduceIte,Nat.reduceEqDiff,Nat.reduceLeDiff,Nat.reduceSub,Nat.reduceAdd])):jiK P fn (fun r' l'=>r'=r∧l'=[]) e F H:=by
 subst hrs hH
 refine jlK he ho hok r ⟨[],[]⟩ ?_ ⟨rfl,rfl⟩
 have:=RLe.free (H:=⟨[],l⟩) (fun _=>true) rfl (jiu _) hv
 rw [jgD] at this
 exact this
end Go.Gd
namespace Go.Proofs.YtdekkklnfifphaaGreatDoor
open Go Go.Gd
set_option maxHeartbeats 4000000
set_option maxRecDepth 10000
theorem StInv.copy {p:GProg} (hs:SOk p) {s:GState} (h:StInv p s):ACalls Tryz.prog 42 [.agg (jal s)] [] (fun r l=>r=.agg (RS.of s).c∧l=(RS.of s).rows):=by
 have h1:s.frames.length≤8:=h.inv.frs
 have h2:=jbm s.heap
 have h3:=h.cells
 refine ju5 s (by omega) (by omega) (by have:=h.outs;omega) (fun k hk=>?_) fun k hk=>?_
 ·have hf:FrOk p (nth s.frames k):=h.inv.fr k hk
  have:=hf.len hs
  exact ⟨by have:=(hs.fns (nth s.frames k).fn.toNat (by have:=hf.f0;have:=hf.f1;omega)).hi;have:=hf.sl;omega,by omega⟩
 ·have:=jeA s.heap k hk;omega
theorem jmj {p:GProg} (hs:SOk p) {s:GState} (h:StInv p s):PCall Tryz.prog 42 [.agg (jal s)] (.agg (jal s)):=by
 have:=PCall.ofA (StInv.copy hs h) (RS.vtoR h.inv.ok)
 rw [RS.of_st] at this
 exact this
theorem jpo {p:GProg} (hs:SOk p) {s:GState} (h:StInv p s) (inp:List Int) (hn:inp.length≤1000) (h0:jbp p s < 0):PCall Tryz.prog 40 [.agg (jah p),.agg (jal s),jaI eI 1 inp] (.agg (jal s)):=by
 have hnx:=jmL hs h
 have hcp:=jmj hs h
 generalize jbp p s=a at *
 refine jbO Tryz.func40 Tryz.ntmps40 ?_
 (repeat' (first|refine jaa fun K hK=>?_|refine wkA ?_|(refine hK _ _ ?_;clear hK K)|(refine jad (fun hc=>?_) (fun hc=>?_)<;>first | contradiction | (exfalso;omega) | skip)|refine cp (hnx) ?_|refine cp (hcp) ?_|refine wkB ?_|exact True.intro|(clear hK K)))
 all_goals (refine jaU [.cell 6 42] ?_;try simp only [go_sem])
theorem jpp {p:GProg} (hs:SOk p) {s:GState} (h:StInv p s) (inp:List Int) (hn:inp.length≤1000) (h0:¬ jbp p s < 0) (hw:jeX p s (jbp p s) inp):PCall Tryz.prog 40 [.agg (jah p),.agg (jal s),jaI eI 1 inp] (.agg (jal { s with status:=1 })):=by
 have hnx:=jmL hs h
 have hcp:=jmj hs h
 have h2:¬ (s.status=2∨s.status=3):=fun hh=>h0 (by unfold jbp;rw [if_pos hh];decide)
 have hd:=h.doing (fun hh=>h2 (.inl hh)) 0 (by decide)
 have hat:atV p (RS.of { s with status:=0 }).st=jbp p s:=by rw [RS.of_st];unfold jbp;rw [if_neg h2];rfl
 obtain ⟨s0,s1,s2,s3,s4,s5⟩:=hd.stmt hs
 rw [hat] at s0 s1
 obtain ⟨hls,hk19,hin⟩:=hw
 have hin0:=h.in0
 generalize jbp p s=a at *
 obtain ⟨x,hla,hxr⟩:=(hs.ok.tree.shape a.toNat s1).1.right hls
 have hkx:=(hs.ok.tree.shape a.toNat s1).2.1 x (by rw [hla];simp)
 have hx0:nth (nth p.tree.nodes a.toNat).l 0=x:=by rw [hla];rfl
 have hll:(nth p.tree.nodes a.toNat).l.length=1:=by rw [hla];rfl
 have hxn:x.toNat < p.tree.nodes.length:=by omega
 have k19':(nth p.tree.nodes x.toNat).kind=19:=by rw [← hx0];exact hk19
 have hls':(nth p.tree.nodes a.toNat).kind=10∨(nth p.tree.nodes a.toNat).kind=11:=hls
 rcases hls' with hk | hk<;>
 ·refine jbO Tryz.func40 Tryz.ntmps40 ?_
  (have W:=And.intro hx0 (And.intro hll (And.intro k19' (hk)));repeat' (first|refine jaa fun K hK=>?_|refine wkA ?_|(with_reducible refine gR 7 ?_);refine dE 7 [0,1,2,3,4,5,6,7,8,9,10,11,12,13,14,15,16,17,18,19,20] mixed ?_|(refine hK _ _ ?_;clear hK K)|(refine jad (fun hc=>?_) (fun hc=>?_)<;>first | contradiction | (exfalso;omega) | skip)|refine cp (hnx) ?_|refine cp (hcp) ?_|refine wkB ?_|exact True.intro|(clear hK K)));all_goals (try clear W)
  all_goals (refine jaU [.cell 6 42] ?_;try simp only [go_sem])
theorem jpn {p:GProg} (hs:SOk p) {s:GState} (h:StInv p s) (inp:List Int) (hn:inp.length≤1000) (ht:0≤s.time∧s.time≤1000000) (h0:¬ jbp p s < 0) (hw:¬ jeX p s (jbp p s) inp)
  (hrg:∀ x:Int,0≤x→x.toNat < p.tree.nodes.length→isE (jak p.tree.nodes x)→rng ((RS.of { s with status:=0 }).val p x).1.n):PCall Tryz.prog 40 [.agg (jah p),.agg (jal s),jaI eI 1 inp] (.agg (jal (jeR p s inp))):=by
 have hnx:=jmL hs h
 have hcp:=jmj hs h
 have hcr:=StInv.copy hs h
 have h2:¬ (s.status=2∨s.status=3):=fun hh=>h0 (by unfold jbp;rw [if_pos hh];decide)
 have hd:=h.doing (fun hh=>h2 (.inl hh)) 0 (by decide)
 have hst:(RS.of { s with status:=0 }).st={ s with status:=0 }:=RS.of_st _
 have hat:atV p (RS.of { s with status:=0 }).st=jbp p s:=by rw [RS.of_st];unfold jbp;rw [if_neg h2];rfl
 obtain ⟨s0,s1,s2,s3,s4,s5⟩:=hd.stmt hs
 have hdo:=ju9 hs _ hd inp hn (by rw [hat,hst];exact hw) hrg
 have hda:=hd.does hs hn (by rw [hat,hst];exact hw)
 rw [hat] at s0 s1 hdo hda
 have hnw:¬ (((nth p.tree.nodes (jbp p s).toNat).kind=10∨(nth p.tree.nodes (jbp p s).toNat).kind=11)∧(nth p.tree.nodes (nth (nth p.tree.nodes (jbp p s).toNat).l 0).toNat).kind=19∧(inp.length:Int)≤s.in_):=hw
 have hsh:((nth p.tree.nodes (jbp p s).toNat).kind=10∨(nth p.tree.nodes (jbp p s).toNat).kind=11)→(nth p.tree.nodes (jbp p s).toNat).l.length=1∧0≤nth (nth p.tree.nodes (jbp p s).toNat).l 0∧(nth (nth p.tree.nodes (jbp p s).toNat).l 0).toNat < p.tree.nodes.length:=fun hk=>by
  obtain ⟨x,hla,hxr⟩:=(hs.ok.tree.shape (jbp p s).toNat s1).1.right hk
  have:=(hs.ok.tree.shape (jbp p s).toNat s1).2.1 x (by rw [hla];simp)
  rw [hla]
  exact ⟨rfl,this.1,by show x.toNat < _;omega⟩
 have hin0:=h.in0
 unfold jeR
 rw [if_neg h0,if_neg hw]
 simp only
 have hgr:=jqm (RS.of { s with status:=0 }) p (jbp p s) inp
 generalize (RS.of { s with status:=0 }).does p (jbp p s) inp=D at *
 generalize jbp p s=a at *
 have hpm:∀ i,jas ((RS.of s).rowsT [(4,.var 29 (jah p)),(5,.var 42 (jal s)),(6,.var 42 [.raw (.slice none 0 0),.raw (.slice none 0 0),rI 0,.raw (.slice none 0 0),rI 0,rI 0,rI 0]),(0,.var 42 (RS.of { s with status:=0 }).c),(7,.var 68 (jaH (nth p.tree.nodes a.toNat)))]) i=jas ((RS.of { s with status:=0 }).e 42 [] [] [(4,.var 29 (jah p)),(5,.var 42 (jal s)),(6,.var 42 [.raw (.slice none 0 0),.raw (.slice none 0 0),rI 0,.raw (.slice none 0 0),rI 0,rI 0,rI 0]),(7,.var 68 (jaH (nth p.tree.nodes a.toNat)))]) i:=RS.e_perm2 (R:=RS.of { s with status:=0 }) rfl (by simp) fun i hi=>by
  simp only [jas,if_neg hi]
 by_cases hz:D.2=0
 ·rw [if_neg (fun e=>e hz)]
  have hD:=hda hz
  have hset:=jlN hs { D.1 with time:=s.time+1 } ⟨⟨hD.inv.ok.nf,hD.inv.ok.jp⟩,hD.inv.frs,hD.inv.fr,hD.inv.busy,hD.inv.go⟩
  have hgs:=jd9 p (RS.left { D.1 with time:=s.time+1 }+1) { D.1 with time:=s.time+1 }
  change Grew _ (({ D.1 with time:=s.time+1 }:RS).settle p) at hgs
  have hTok:(({ D.1 with time:=s.time+1 }:RS).settle p).Ok:=(jdp (RS.left { D.1 with time:=s.time+1 }+1) { D.1 with time:=s.time+1 } ⟨⟨hD.inv.ok.nf,hD.inv.ok.jp⟩,hD.inv.frs,hD.inv.fr,hD.inv.busy,hD.inv.go⟩ (by omega)).1.ok
  generalize hT:({ D.1 with time:=s.time+1 }:RS).settle p=T at *
  rcases Classical.em ((nth p.tree.nodes a.toNat).kind=10∨(nth p.tree.nodes a.toNat).kind=11) with hk | hk
  ·obtain ⟨g1,g2,g3⟩:=hsh hk
   refine jbO Tryz.func40 Tryz.ntmps40 ?_
   (have W:=And.intro hz (g1);repeat' (first|refine jaa fun K hK=>?_|refine wkA ?_|(with_reducible refine gR 7 ?_);refine dE 7 [0,1,2,3,4,5,6,7,8,9,10,11,12,13,14,15,16,17,18,19,20] mixed ?_|(refine hK _ _ ?_;clear hK K)|(refine jad (fun hc=>?_) (fun hc=>?_)<;>first | contradiction | (exfalso;omega) | skip)|refine cp (hnx) ?_|(refine cR (R:=RS.of s) hcr rfl jai rfl (by simp only [go_sem]) ?_;(refine S ?_;try exact True.intro))|(refine cEp (R:=RS.of { s with status:=0 }) (R':=D.1) (pre:=[]) (post:=[]) (pre':=[]) (post':=[]) (tl:=[(4,.var 29 (jah p)),(5,.var 42 (jal s)),(6,.var 42 [.raw (.slice none 0 0),.raw (.slice none 0 0),rI 0,.raw (.slice none 0 0),rI 0,rI 0,rI 0]),(7,.var 68 (jaH (nth p.tree.nodes a.toNat)))]) hdo rfl hpm hgr.frs hgr.heap rfl rfl jai rfl (by simp only [go_sem]) ?_;(refine S ?_;try exact True.intro))|(refine cE (R:={ D.1 with time:=s.time+1 }) (R':=T) (pre:=[]) (post:=[]) (pre':=[]) (post':=[]) hset rfl hgs.frs hgs.heap rfl rfl jai rfl (by simp only [go_sem]) ?_;(refine S ?_;try exact True.intro))|refine bxF 4 ?_|refine bxF 5 ?_|refine alF 6 ?_|refine alF 0 ?_|refine alF 7 ?_|refine wkB ?_|exact True.intro|(clear hK K)));all_goals (try clear W)
   exact jlI [.cell 6 42] rfl (VToL.agg (ds:=jal T.st) (RS.vto (t:=42) (pre:=[]) (post:=[]) (R:=T) hTok fun _=>rfl))
  ·refine jbO Tryz.func40 Tryz.ntmps40 ?_
   (have W:=hz;repeat' (first|refine jaa fun K hK=>?_|refine wkA ?_|(with_reducible refine gR 7 ?_);refine dE 7 [0,1,2,3,4,5,6,7,8,9,10,11,12,13,14,15,16,17,18,19,20] mixed ?_|(refine hK _ _ ?_;clear hK K)|(refine jad (fun hc=>?_) (fun hc=>?_)<;>first | contradiction | (exfalso;omega) | skip)|refine cp (hnx) ?_|(refine cR (R:=RS.of s) hcr rfl jai rfl (by simp only [go_sem]) ?_;(refine S ?_;try exact True.intro))|(refine cEp (R:=RS.of { s with status:=0 }) (R':=D.1) (pre:=[]) (post:=[]) (pre':=[]) (post':=[]) (tl:=[(4,.var 29 (jah p)),(5,.var 42 (jal s)),(6,.var 42 [.raw (.slice none 0 0),.raw (.slice none 0 0),rI 0,.raw (.slice none 0 0),rI 0,rI 0,rI 0]),(7,.var 68 (jaH (nth p.tree.nodes a.toNat)))]) hdo rfl hpm hgr.frs hgr.heap rfl rfl jai rfl (by simp only [go_sem]) ?_;(refine S ?_;try exact True.intro))|(refine cE (R:={ D.1 with time:=s.time+1 }) (R':=T) (pre:=[]) (post:=[]) (pre':=[]) (post':=[]) hset rfl hgs.frs hgs.heap rfl rfl jai rfl (by simp only [go_sem]) ?_;(refine S ?_;try exact True.intro))|refine bxF 4 ?_|refine bxF 5 ?_|refine alF 6 ?_|refine alF 0 ?_|refine alF 7 ?_|refine wkB ?_|exact True.intro|(clear hK K)));all_goals (try clear W)
   exact jlI [.cell 6 42] rfl (VToL.agg (ds:=jal T.st) (RS.vto (t:=42) (pre:=[]) (post:=[]) (R:=T) hTok fun _=>rfl))
 ·rw [if_pos hz]
  rcases Classical.em ((nth p.tree.nodes a.toNat).kind=10∨(nth p.tree.nodes a.toNat).kind=11) with hk | hk
  ·obtain ⟨g1,g2,g3⟩:=hsh hk
   refine jbO Tryz.func40 Tryz.ntmps40 ?_
   (have W:=And.intro hz (g1);repeat' (first|refine jaa fun K hK=>?_|refine wkA ?_|(with_reducible refine gR 7 ?_);refine dE 7 [0,1,2,3,4,5,6,7,8,9,10,11,12,13,14,15,16,17,18,19,20] mixed ?_|(refine hK _ _ ?_;clear hK K)|(refine jad (fun hc=>?_) (fun hc=>?_)<;>first | contradiction | (exfalso;omega) | skip)|refine cp (hnx) ?_|(refine cR (R:=RS.of s) hcr rfl jai rfl (by simp only [go_sem]) ?_;(refine S ?_;try exact True.intro))|(refine cEp (R:=RS.of { s with status:=0 }) (R':=D.1) (pre:=[]) (post:=[]) (pre':=[]) (post':=[]) (tl:=[(4,.var 29 (jah p)),(5,.var 42 (jal s)),(6,.var 42 [.raw (.slice none 0 0),.raw (.slice none 0 0),rI 0,.raw (.slice none 0 0),rI 0,rI 0,rI 0]),(7,.var 68 (jaH (nth p.tree.nodes a.toNat)))]) hdo rfl hpm hgr.frs hgr.heap rfl rfl jai rfl (by simp only [go_sem]) ?_;(refine S ?_;try exact True.intro))|refine cp (hcp) ?_|refine bxF 4 ?_|refine bxF 5 ?_|refine alF 6 ?_|refine alF 0 ?_|refine alF 7 ?_|refine wkB ?_|exact True.intro|(clear hK K)));all_goals (try clear W)
   exact jlI [.cell 6 42] rfl (.same (.agg (jal { s with status:=3,trap:=D.2,time:=s.time+1 })) (by simp only [AV.all];exact jdk _ _))
  ·refine jbO Tryz.func40 Tryz.ntmps40 ?_
   (have W:=hz;repeat' (first|refine jaa fun K hK=>?_|refine wkA ?_|(with_reducible refine gR 7 ?_);refine dE 7 [0,1,2,3,4,5,6,7,8,9,10,11,12,13,14,15,16,17,18,19,20] mixed ?_|(refine hK _ _ ?_;clear hK K)|(refine jad (fun hc=>?_) (fun hc=>?_)<;>first | contradiction | (exfalso;omega) | skip)|refine cp (hnx) ?_|(refine cR (R:=RS.of s) hcr rfl jai rfl (by simp only [go_sem]) ?_;(refine S ?_;try exact True.intro))|(refine cEp (R:=RS.of { s with status:=0 }) (R':=D.1) (pre:=[]) (post:=[]) (pre':=[]) (post':=[]) (tl:=[(4,.var 29 (jah p)),(5,.var 42 (jal s)),(6,.var 42 [.raw (.slice none 0 0),.raw (.slice none 0 0),rI 0,.raw (.slice none 0 0),rI 0,rI 0,rI 0]),(7,.var 68 (jaH (nth p.tree.nodes a.toNat)))]) hdo rfl hpm hgr.frs hgr.heap rfl rfl jai rfl (by simp only [go_sem]) ?_;(refine S ?_;try exact True.intro))|refine cp (hcp) ?_|refine bxF 4 ?_|refine bxF 5 ?_|refine alF 6 ?_|refine alF 0 ?_|refine alF 7 ?_|refine wkB ?_|exact True.intro|(clear hK K)));all_goals (try clear W)
   exact jlI [.cell 6 42] rfl (.same (.agg (jal { s with status:=3,trap:=D.2,time:=s.time+1 })) (by simp only [AV.all];exact jdk _ _))
theorem jwq {p:GProg} (hs:SOk p) {s:GState} (h:StInv p s) (inp:List Int) (hn:inp.length≤1000) (ht:0≤s.time∧s.time≤1000000)
  (hrg:∀ x:Int,0≤x→x.toNat < p.tree.nodes.length→isE (jak p.tree.nodes x)→rng ((RS.of { s with status:=0 }).val p x).1.n):PCall Tryz.prog 40 [.agg (jah p),.agg (jal s),jaI eI 1 inp] (.agg (jal (jeR p s inp))):=by
 by_cases h0:jbp p s < 0
 ·have:=jpo hs h inp hn h0
  unfold jeR;rw [if_pos h0];exact this
 by_cases hw:jeX p s (jbp p s) inp
 ·have:=jpp hs h inp hn h0 hw
  unfold jeR;rw [if_neg h0,if_pos hw];exact this
 exact jpn hs h inp hn ht h0 hw hrg
end Go.Proofs.YtdekkklnfifphaaGreatDoor
namespace Go.Gd
open Go
theorem jo4 {n:Nat} {S:Type} {W:List (Nat×Nat)} {ok:S→Prop} {J:S→List (Nat×AV)} {G:S→Hp} {μ:S→Nat} {F₀ F:List AV} {B:List Nat} {l:List (Nat×Row)} (l':List (Nat×Row)) (s:S) (h1:ok s) (h2:μ s < n) (hperm:∀ i,jas l i=jas l' i) (h4:⟨B,l'⟩=G s) (h3:LLe F (jjj (J s) (jlf W F₀))):Next n W ok J G μ F₀ F ⟨B,l⟩:=
 ⟨s,h2,(FLe.perm l' hperm).trans (by rw [← h4];exact FLe.pt _ h3),h1⟩
end Go.Gd
namespace Go.Proofs.YtdekkklnfifphaaGreatDoor
open Go Go.Gd
set_option maxHeartbeats 4000000
set_option maxRecDepth 10000
theorem jtF {p:GProg} (hs:SOk p):PCall Tryz.prog 33 [.agg (jah p)] (.agg (jal (jjq p))):=by
 obtain ⟨m,hm,hidx,hnm,hpar⟩:=jqJ hs
 have hfc:=jhC (args:=[.agg (jah p),rI m,.raw (.slice none 0 0)]) (args':=[.agg (jah p),rI m,jaI jan 3 []]) ⟨VLe.refl _,VLe.refl _,VLe.nil,trivial⟩ (jnw hs m hm [] (by rw [hpar];rfl) 0)
 have hset:=jlN hs (jkH p) (jfL hs).inv
 have hfns:=hs.ok.tree.fns
 have hTok:=(jdp ((jkH p).left+1) (jkH p) (jfL hs).inv (by omega)).1.ok
 have hgs:=jd9 p ((jkH p).left+1) (jkH p)
 change ((jkH p).settle p).Ok at hTok
 change Grew _ ((jkH p).settle p) at hgs
 rw [jtG]
 have hR:RS.of { jrG with frames:=[jbP p m []] }=jkH p:=by unfold jkH;rw [hidx]
 generalize hB0:jkH p=R at *
 generalize hT:R.settle p=T at *
 refine jbO Tryz.func33 Tryz.ntmps33 ?_
 (repeat' (first|refine jaa fun K hK=>?_|refine wkA ?_|(refine hK _ _ ?_;clear hK K)|(refine jad (fun hc=>?_) (fun hc=>?_)<;>first | contradiction | (exfalso;omega) | skip)|refine bxF 4 ?_|refine alF 5 ?_|refine alF 0 ?_|refine wkB ?_|exact True.intro|(clear hK K)))
 refine jaD (FLe.nilC 2 0 1 22 1 rfl (by decide) rfl rfl) ?_
 refine jaD (FLe.nilC 3 0 3 9 1 rfl (by decide) rfl rfl) ?_
 (refine S ?_;try exact True.intro)
 have hKo:=hK;clear hK
 refine jag (S:=Nat) [(4,1),(6,21)] (fun k=>k≤p.tree.fns.length) (fun k=>[(4,rI k)]) (fun k=>if k≤m then ⟨[],[(4,.var 29 (jah p)),(5,.var 42 [.raw (.slice none 0 0),.raw (.slice none 0 0),rI 0,.raw (.slice none 0 0),rI 0,rI 0,rI 0]),(0,.var 42 [.raw (.slice none 0 0),.rs 2 0 1 0,rI 0,.rs 3 0 1 0,rI 0,rI 0,rI 0]),(2,.vec 22 1 []),(3,.vec 9 1 [])]⟩ else ⟨[],R.e 42 [] [] [(4,.var 29 (jah p)),(5,.var 42 [.raw (.slice none 0 0),.raw (.slice none 0 0),rI 0,.raw (.slice none 0 0),rI 0,rI 0,rI 0])]⟩)
  (fun k=>p.tree.fns.length - k) 0 (by omega) (jau ?_ lle) ?_
 ·rw [if_pos (by omega)]
 rintro k hk Kr hKr
 by_cases h1:k < m
 ·have hne:=eq_false (hs.names.one k m h1 hm)
  rw [hnm] at hne
  rw [if_pos (by omega)]
  (refine S ?_;try exact True.intro)
  (have W:=hne;repeat' (first|refine jaa fun K hK=>?_|refine wkA ?_|(refine hK _ _ ?_;clear hK K)|(refine jad (fun hc=>?_) (fun hc=>?_)<;>first | contradiction | (exfalso;omega) | skip)|refine wkB ?_|exact True.intro|(clear hK K)));all_goals (try clear W)
  refine hKr _ _ (jar (k+1) (by omega) (by (try simp only);omega) ?_ lle)
  rw [if_pos (by omega)]
 by_cases h2:k=m
 ·subst h2
  rw [if_pos (by omega)]
  (refine S ?_;try exact True.intro)
  (have W:=hnm;repeat' (first|refine jaa fun K hK=>?_|refine wkA ?_|(refine hK _ _ ?_;clear hK K)|(refine jad (fun hc=>?_) (fun hc=>?_)<;>first | contradiction | (exfalso;omega) | skip)|refine cm (hfc) ?_|refine jsg 1 ?_|refine wkB ?_|exact True.intro|(clear hK K)));all_goals (try clear W)
  have hg0:=jcx 0 0
  have hg1:=jcx 1 0
  have hg2:fid 1 0≠fid 0 0:=by decide
  refine hKr _ _ (jo4 (R.e 42 [] [] [(4,.var 29 (jah p)),(5,.var 42 [.raw (.slice none 0 0),.raw (.slice none 0 0),rI 0,.raw (.slice none 0 0),rI 0,rI 0,rI 0])]) (k+1) (by omega) (by show p.tree.fns.length - (k+1) < p.tree.fns.length - k;omega) ?_ ?_ lle)
  ·subst hR
   intro i
   show jas [_,_,_,_,_,_,_,_] i=jas [_,_,_,_,(fid 0 0,_),(fid 1 0,_),_,_] i
   simp only [jas]
   repeat' split
   all_goals first
    | rfl
    | (exfalso;omega)
  ·show _=(if k+1≤k then _ else _)
   rw [if_neg (by omega)]
 ·rw [if_neg (by omega)]
  by_cases h3:k < p.tree.fns.length
  ·have hne:((nth p.tree.fns k).name=(⟨#[109,97,105,110]⟩:ByteArray))=False:=eq_false fun e=>hs.names.one m k (by omega) h3 (by rw [hnm,e])
   (refine S ?_;try exact True.intro)
   (have W:=hne;repeat' (first|refine jaa fun K hK=>?_|refine wkA ?_|(refine hK _ _ ?_;clear hK K)|(refine jad (fun hc=>?_) (fun hc=>?_)<;>first | contradiction | (exfalso;omega) | skip)|refine wkB ?_|exact True.intro|(clear hK K)));all_goals (try clear W)
   refine hKr _ _ (jar (k+1) (by omega) (by show p.tree.fns.length - (k+1) < p.tree.fns.length - k;omega) ?_ lle)
   show _=(if k+1≤m then _ else _)
   rw [if_neg (by omega)];rfl
  ·(refine S ?_;try exact True.intro)
   (repeat' (first|refine jaa fun K hK=>?_|refine wkA ?_|(refine hK _ _ ?_;clear hK K)|(refine jad (fun hc=>?_) (fun hc=>?_)<;>first | contradiction | (exfalso;omega) | skip)|(refine hKo _ _ ?_)|(refine cE (R:=R) (R':=T) (pre:=[]) (post:=[]) (pre':=[]) (post':=[]) hset rfl hgs.frs hgs.heap rfl rfl jai rfl (by simp only [go_sem]) ?_;(refine S ?_;try exact True.intro))|refine wkB ?_|exact True.intro|(clear hK K)))
   exact jlI [.cell 2 42] rfl (VToL.agg (ds:=jal T.st) (RS.vto (t:=42) (pre:=[]) (post:=[]) (R:=T) hTok fun _=>rfl))
theorem jwr {p:GProg} (hs:SOk p) {n:Nat} {s:GState} (h:jkI p n s) (hn2:n≤1000000) (inp:List Int) (hn:inp.length≤1000):PCall Tryz.prog 40 [.agg (jah p),.agg (jal s),jaI eI 1 inp] (.agg (jal (jeR p s inp))):=
 jwq hs h.inv inp hn ⟨h.t0,by have:=h.t1;omega⟩ fun x h0 hl hE=>RngR.val hs (R:=RS.of { s with status:=0 }) ⟨h.rng.sl,h.rng.hp⟩ h.inv.cells h0 hl hE
theorem jrr {p:GProg} (hs:SOk p) (inp:List Int) (hn:inp.length≤1000) (hi:∀ x∈inp,rng x) (n:Nat) (hn2:n≤1000000):PCall Tryz.prog 17 [.agg (jah p),jaI eI 1 inp,rI n] (.agg (jal (joh p inp n))):=by
 have hst:=jtF hs
 refine jbO Tryz.func17 Tryz.ntmps17 ?_
 (repeat' (first|refine jaa fun K hK=>?_|refine wkA ?_|(refine hK _ _ ?_;clear hK K)|(refine jad (fun hc=>?_) (fun hc=>?_)<;>first | contradiction | (exfalso;omega) | skip)|refine bxF 4 ?_|refine alF 5 ?_|refine alF 6 ?_|refine cp (hst) ?_|refine wkB ?_|exact True.intro|(clear hK K)))
 have hKo:=hK;clear hK
 refine jag (S:=Nat) [(8,1),(11,9)] (fun k=>k≤n) (fun k=>[(8,rI k)]) (fun k=>⟨[],[(4,.var 29 (jah p)),(5,.var 42 [.raw (.slice none 0 0),.raw (.slice none 0 0),rI 0,.raw (.slice none 0 0),rI 0,rI 0,rI 0]),(6,.var 42 (jal (joh p inp k)))]⟩) (fun k=>n - k) 0 (by omega) (jau rfl lle) ?_
 rintro k hk Kr hKr
 by_cases hlt:k < n
 ·have hsp:=jwr hs (jga hs hn hi k) (by omega) inp hn
  (refine S ?_;try exact True.intro)
  (repeat' (first|refine jaa fun K hK=>?_|refine wkA ?_|(refine hK _ _ ?_;clear hK K)|(refine jad (fun hc=>?_) (fun hc=>?_)<;>first | contradiction | (exfalso;omega) | skip)|refine cp (hsp) ?_|refine wkB ?_|exact True.intro|(clear hK K)))
  refine hKr _ _ (jar (k+1) (by omega) (by (try simp only);omega) rfl lle)
 ·have hke:k=n:=by omega
  subst hke
  (refine S ?_;try exact True.intro)
  (repeat' (first|refine jaa fun K hK=>?_|refine wkA ?_|(refine hK _ _ ?_;clear hK K)|(refine jad (fun hc=>?_) (fun hc=>?_)<;>first | contradiction | (exfalso;omega) | skip)|(refine hKo _ _ ?_)|refine wkB ?_|exact True.intro|(clear hK K)))
  (refine jaU [.cell 6 42] ?_;try simp only [go_sem])
end Go.Proofs.YtdekkklnfifphaaGreatDoor
