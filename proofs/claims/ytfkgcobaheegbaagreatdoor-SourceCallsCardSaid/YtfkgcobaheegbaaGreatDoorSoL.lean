/- Calls whose things are read from then on. What a program means: a step, from states that are read to states that are read. What a program means: the beginning, and a run. What a program means: a run. No conditions. -/
import Derived.Test.YtfkgcobaheegbaaGreatDoorGdR
import Derived.Test.YtfkgcobaheegbaaGreatDoorSoC
import Derived.Test.YtfkgcobaheegbaaGreatDoorSoH
set_option linter.all false
namespace Go.Gd
open Go
theorem jjp:∀ (l:List (Nat×Row)),jeu (fun _=>true) l
 | []=>trivial
 | _::l=>⟨.inl rfl,jjp l⟩
theorem jgS:∀ (l:List (Nat×Row)),jbf (fun _=>true) l=[]
 | []=>rfl
 | x::l=>jgS l
theorem PCall.ofA {P:Program} {f:FuncId} {args:List AV} {r0 r1:AV} {l0:List (Nat×Row)} (hc:ACalls P f args [] fun r l=>r=r0∧l=l0) (hv:VTo (fun _=>true) ⟨[],l0⟩ r0 r1):PCall P f args r1:=fun w vs h1 h2=>by
 refine (hc w vs h1 h2).mono ?_
 rintro e W ⟨v,r,⟨B,l⟩,w',rfl,e1,⟨rfl,rfl⟩,g1,g2,g3⟩
 have hB:B=[]:=g3.base
 subst hB
 obtain ⟨w2,k1,k2,k3,k4⟩:=RLe.free (fun _=>true) rfl (jjp _) hv w' v g1 g2
 refine ⟨v,r1,_,w2,k1.symm,e1,⟨rfl,jgS _⟩,k2,k3,g3.trans k4⟩
theorem RS.rows_nodup (R:RS):(ids R.rows).Nodup:=by
 have:=RS.nodup (t:=0) (pre:=[]) (post:=[]) (R:=R)
 exact (List.nodup_cons.1 this).2
theorem RS.e_perm {t:TypeId} {pre post:List AV} {R:RS} {tl:List (Nat×Row)} {c:List AV} (hc:c=pre++R.c++post) (h0:jau tl 0=none) (i:Nat):jau (R.rowsT (tl++[(0,.var t c)])) i=jau (R.e t pre post tl) i:=by
 subst hc
 rw [RS.e_rows,RS.rowsT_app,← List.append_assoc,← RS.rowsT_app]
 exact jox (by rw [RS.rowsT_get _ _ _ (.inl rfl) (by omega),h0]) i
theorem cR {P:Program} {f:FuncId} {args:List AV} {H:Hp} {K:AV→Hp→Prop} {R:RS} {r0:AV} {tl:List (Nat×Row)} (hc:ACalls P f args [] fun r l=>r=r0∧l=R.rows) (hH:H=⟨[],tl⟩) (hl:low tl) (h2:jaE noQ args=true) (h0:jad P f=true) (k:K r0 ⟨[],R.rowsT tl⟩):jbq P (.raw (.func (.func f) #[] #[])) args H K:=by
 subst hH
 refine jbU h0 fun w vs h1 h3=>?_
 have hno:∀ i r,jau R.rows i=some r→jau tl i=none:=fun i r hi=>by
  cases e:jau tl i with
  | none=>rfl
  | some x=>
   have:=hl i x e
   rw [RS.rows_no i (.inr this.1) this.2] at hi;cases hi
 refine (jfw (H:=⟨[],tl⟩) (K:=fun r H'=>r=r0∧∃ l',H'=⟨[],l'⟩∧∀ i,jau l' i=jau (R.rowsT tl) i) hc (fun i r hi=>by cases hi) (by simpa [ids] using h2) (fun i r hi=>by cases hi) (fun r l' ⟨e1,e2⟩=>⟨fun i s hs=>?_,by rw [e2];exact R.rows_nodup,e1,_,rfl,fun i=>?_⟩) h1 h3).mono ?_
 ·subst e2
  exact .inr (hno i s hs)
 ·subst e2
  rw [jdZ _ _ _ (fun _ _ _=>trivial) R.rows_nodup,RS.rowsT_app,jbE]
 ·rintro e W ⟨v,r,H',w',rfl,rfl,⟨rfl,l',rfl,hl'⟩,g1,g2,g3⟩
  exact ⟨v,_,⟨[],R.rowsT tl⟩,w',rfl,rfl,k,jje hl' g1,g2,{ g3 with base:=rfl }⟩
theorem jnc {P:Program} {f:FuncId} {args:List AV} {B:List Nat} {l l':List (Nat×Row)} {K:AV→Hp→Prop} (h:∀ i,jau l i=jau l' i) (k:HCalls P f args ⟨B,l'⟩ K):HCalls P f args ⟨B,l⟩ K:=fun w vs h1 h2=>by
 refine (k w vs (jje h h1) h2).mono ?_
 rintro e W ⟨v,r,H',w',e0,e1,k,g1,g2,g3⟩
 exact ⟨v,r,H',w',e0,e1,k,g1,g2,{ g3.toExtQ with base:=g3.base }⟩
theorem RS.e_perm2 {t:TypeId} {pre post:List AV} {R:RS} {tl tl':List (Nat×Row)} {c:List AV} (h0:jau tl 0=some (.var t c)) (hc:c=pre++R.c++post) (h:∀ i,i≠0→jau tl i=jau tl' i) (i:Nat):jau (R.rowsT tl) i=jau (R.e t pre post tl') i:=by
 subst hc
 by_cases e:i=0
 ·subst e
  rw [RS.rowsT_get _ _ _ (.inl rfl) (by omega),h0,RS.get0]
 ·rw [RS.e_rows]
  show _=if i=0 then _ else _
  rw [if_neg e,RS.rowsT_app,RS.rowsT_app,jbE,jbE,h i e]
theorem cEp {P:Program} {f:FuncId} {args:List AV} {H:Hp} {K:AV→Hp→Prop} {t:TypeId} {pre post pre' post':List AV} {R R':RS} {r0:AV} {B:List Nat} {l tl:List (Nat×Row)} (hc:ACalls P f args (R.e t pre post []) fun r l'=>r=r0∧l'=R'.e t pre' post' []) (hH:H=⟨B,l⟩) (hperm:∀ i,jau l i=jau (R.e t pre post tl) i)
  (h1:R.frs.length≤R'.frs.length) (h2:R.heap.length≤R'.heap.length) (hp:jaE noQ pre=true) (hq:jaE noQ post=true) (hl:low tl) (ha:jaE (fun i=>decide (i=0)) args=true) (h0:jad P f=true) (k:K r0 ⟨B,R'.e t pre' post' tl⟩):jbq P (.raw (.func (.func f) #[] #[])) args H K:=by
 subst hH
 refine jbU h0 (jnc hperm (jeY (E:=fun tl=>R.e t pre post tl) (E':=fun tl=>R'.e t pre' post' tl) hc (RS.lays hl) (RS.lays hl) RS.nodup (jbk (fun i hi=>?_) _ ha) (RS.closed hp hq) k (RS.size h1 h2)))
 have:i=0:=of_decide_eq_true hi
 subst this
 exact jdx RS.get0
theorem RS.vtoR {R:RS} (h:R.Ok):VTo (fun _=>true) ⟨[],R.rows⟩ (.agg R.c) (.agg (jao R.st)):=by
 have hnf:=h.nf
 have g:∀ {i:Nat} {r:Row},jau (R.e 0 [] [] []) i=some r→i≠0→(Hp.mk [] R.rows).get i=some r:=fun {i r} e h=>by
  have e:(if i=0 then _ else jau R.rows i)=some r:=e
  rw [if_neg h] at e;exact e
 have gf:∀ {a k:Nat} {r:Row},jau (R.e 0 [] [] []) (fid a k)=some r→(Hp.mk [] R.rows).get (fid a k)=some r:=fun {a k r} e=>g e (by have:=jcs a k;omega)
 refine VToL.agg (ds:=jao R.st) ⟨?_,?_,.same _ rfl,?_,.same _ rfl,.same _ rfl,.same _ rfl,True.intro⟩
 ·refine .rsc _ 1 3 _ _ 57 _ _ rfl (g RS.get1 (by decide)) (by simp [go_sem]) hnf (by show (List.map _ (R.frs.take R.nf)).length=_;simp;omega) (fun ds hds=>?_) (jcf (enc:=jaN) (sz:=3) _) fun k j c d hk h1 h2=>?_
  ·obtain ⟨x,_,rfl⟩:=List.mem_map.1 hds;rfl
  ·rw [jgu _ _ _ (by omega)] at h1
   have hk':k < (R.frs.take R.nf).length:=by simp;omega
   have e2:(List.map jaN (R.frs.take R.nf)).getD k []=jaN (nth R.frs k):=by
    rw [jdU _ _ _ hk',ja3 hk',ja3 (by omega)];simp
   have h2:((List.map jaN (R.frs.take R.nf)).getD k [])[j]?=some d:=h2
   rw [e2] at h2
   unfold RS.fr at h1
   match j with
   | 0=>cases h1;cases h2;exact .same _ rfl
   | 1=>cases h1;cases h2;exact .row _ rfl (gf (RS.getS (by omega))) rfl
   | 2=>cases h1;cases h2;exact .rowCut _ _ rfl (gf (RS.getP (by omega))) rfl rfl
   | j+3=>simp at h1
 ·refine .rs _ 2 1 _ 22 _ _ rfl (g RS.get2 (by decide)) (by simp [go_sem]) (by simp [go_sem];rfl) (fun ds hds=>?_) (jcf (enc:=eLI) (sz:=1) _) fun k j c d hk h1 h2=>?_
  ·obtain ⟨x,_,rfl⟩:=List.mem_map.1 hds;rfl
  ·have hk:k < R.heap.length:=by simpa [go_sem] using hk
   rw [jgu _ _ _ hk] at h1
   have h2:((List.map eLI R.heap).getD k [])[j]?=some d:=h2
   rw [jdU _ _ _ hk] at h2
   match j with
   | 0=>cases h1;cases h2;exact .row _ rfl (gf (RS.getH hk)) rfl
   | j+1=>simp at h1
 ·exact .row _ rfl (g RS.get3 (by decide)) rfl
theorem jry {P:Program} {fn:Func} {F:List AV} {l:List (Nat×Row)} {H:Hp} {out:List AV} {e:Exit} {r:AV} (rs:List ResultVar) (hH:H=⟨[],l⟩) (hv:VTo (fun _=>true) H (jby out) r) (hrs:fn.results.toList=rs:=by rfl) (he:e=.normal∨e=.ret:=by first | exact Or.inr rfl | exact Or.inl rfl | fail)
  (ho:jgC P H F rs=some out:=by first | rfl | (simp (disch:=first | omega | fail) only [go_sem,↓reduceIte,Nat.reduceEqDiff,Nat.reduceLeDiff,Nat.reduceSub,Nat.reduceAdd];rfl)) (hok:jbW P H F rs:=by first | exact True.intro | (simp (disch:=first | omega | fail) only [go_sem,↓reduceIte,Nat.reduceEqDiff,Nat.reduceLeDiff,Nat.reduceSub,Nat.reduceAdd])):jjz P fn (fun r' l'=>r'=r∧l'=[]) e F H:=by
 subst hrs hH
 refine jkk he ho hok r ⟨[],[]⟩ ?_ ⟨rfl,rfl⟩
 have:=RLe.free (H:=⟨[],l⟩) (fun _=>true) rfl (jjp _) hv
 rw [jgS] at this
 exact this
end Go.Gd
namespace Go.Proofs.YtfkgcobaheegbaaGreatDoor
open Go Go.Gd
set_option maxHeartbeats 4000000
set_option maxRecDepth 10000
theorem StInv.copy {p:GProg} (hs:SOk p) {s:GState} (h:StInv p s):ACalls Tryz.prog 29 [.agg (jao s)] [] (fun r l=>r=.agg (RS.of s).c∧l=(RS.of s).rows):=by
 have h1:s.frames.length≤8:=h.inv.frs
 have h2:=jbI s.heap
 have h3:=h.cells
 refine ju5 s (by omega) (by omega) (by have:=h.outs;omega) (fun k hk=>?_) fun k hk=>?_
 ·have hf:FrOk p (nth s.frames k):=h.inv.fr k hk
  have:=hf.len hs
  exact ⟨by have:=(hs.fns (nth s.frames k).fn.toNat (by have:=hf.f0;have:=hf.f1;omega)).hi;have:=hf.sl;omega,by omega⟩
 ·have:=jex s.heap k hk;omega
end Go.Proofs.YtfkgcobaheegbaaGreatDoor
namespace Go.Gd
open Go
end Go.Gd
namespace Go.Proofs.YtfkgcobaheegbaaGreatDoor
open Go Go.Gd
set_option maxHeartbeats 4000000
set_option maxRecDepth 10000
end Go.Proofs.YtfkgcobaheegbaaGreatDoor
