/- A state that goes on: other things are let go of beside it. What a program means: calls that begin. What a program means: jcD, lists, numbers that are put. What a program means: a number that is put. No conditions. -/
import Derived.Test.YtfkgcobaheegbaaGreatDoorWd
import Derived.Test.YtfkgcobaheegbaaGreatDoorGdR
set_option linter.all false
namespace Go.Gd
open Go
theorem RS.freeL {D:Nat→Bool} {t t':TypeId} {pre post pre' post':List AV} {R R':RS} {tl:List (Nat×Row)} {B:List Nat} (hB:ids (R.e t pre post [])=B) (hD:∀ i,(i < 4∨1000≤i)→D i=false) (hp:jaE noQ pre'=true) (hq:jaE noQ post'=true) (hs:jeu D tl) :
  B.all (jcQ D)=true∧jeu D (R'.e t' pre' post' tl)∧jbf D (R'.e t' pre' post' tl)=R'.e t' pre' post' (jbf D tl):=by
 have hno:∀ {R:RS} {t:TypeId} {pre post:List AV} i,i∈ids (R.e t pre post [])→D i=false:=fun i hi=>hD i (by
  by_cases h:i < 4
  ·exact .inl h
  ·right
   apply Classical.byContradiction
   intro h'
   exact (jcC _ _).1 hi (RS.no i (by omega) (by omega)))
 refine ⟨?_,?_,?_⟩
 ·rw [List.all_eq_true]
  intro i hi
  rw [← hB] at hi
  unfold jcQ
  rw [hno i hi];rfl
 ·rw [RS.e_app]
  refine jfc _ _ _ (jd6 _ _ RS.nodup fun i r hi=>jbk (fun k hk=>?_) _ (RS.closed hp hq i r hi)) hs
  unfold jcQ
  rw [hno k (List.contains_iff_mem.1 hk)];rfl
 ·rw [RS.e_app,jdW,jcP _ _ (fun i hi=>hno i hi),← RS.e_app]
theorem j2u {P:Program} {c:Code} {Q:Exit→List AV→Hp→Prop} {F F':List AV} {H:Hp} {t t':TypeId} {pre post pre' post':List AV} {R R':RS} {B:List Nat} (L:List Nat) (tl:List (Nat×Row)) (h00:(L.any fun i=>(jau tl i).isSome)=true) (hL:L.all (fun i=>decide (4≤i∧i < 1000))=true) (hH:H=⟨B,R'.e t' pre' post' tl⟩) (hB:ids (R.e t pre post [])=B) (hp:jaE noQ pre'=true) (hq:jaE noQ post'=true)
  (hs:jeu (fun i=>L.contains i) tl) (hv:VToL (fun i=>L.contains i) H F F') (h:AWP P c Q F' ⟨B,R'.e t' pre' post' (jbf (fun i=>L.contains i) tl)⟩):AWP P c Q F H:=by
 subst hH
 obtain ⟨h1,h2,h3⟩:=RS.freeL (D:=fun i=>L.contains i) (R':=R') (t':=t') (pre':=pre') (post':=post') (tl:=tl) hB (fun i hi=>by
  cases e:L.contains i with
  | false=>rfl
  | true=>
   have:=List.all_eq_true.1 hL i (List.contains_iff_mem.1 e)
   simp only [decide_eq_true_eq] at this
   omega) hp hq hs
 refine ja1 (FLe.free _ h1 h2 hv) ?_
 show AWP P c Q F' ⟨B,jbf _ (R'.e t' pre' post' tl)⟩
 rw [h3];exact h
theorem jaM {l l':List (Nat×Row)} (j:Nat) (r:Row) (h:∀ i,jau l i=jau l' i):∀ i,jau ((j,r)::l) i=jau ((j,r)::l') i:=fun i=>by
 show (if i=j then _ else _)=(if i=j then _ else _)
 rw [h i]
theorem jfH (a:Nat) (f:Nat→Row) {l l':List (Nat×Row)} (h:∀ i,jau l i=jau l' i):∀ (n k i:Nat),jau (jet a f k n l) i=jau (jet a f k n l') i
 | 0,k,i=>h i
 | n+1,k,i=>jaM _ _ (jfH a f h n (k+1)) i
theorem jaY (a n:Nat) (f:Nat→Row) {l l':List (Nat×Row)} (h:∀ i,jau l i=jau l' i) (i:Nat):jau (fam a n f l) i=jau (fam a n f l') i:=jfH a f h n 0 i
theorem jlQ (a:Nat) (f:Nat→Row) (l:List (Nat×Row)):∀ (n k:Nat),jet a f k (n+1) l=jet a f k n ((fid a (k+n),f (k+n))::l)
 | 0,k=>rfl
 | n+1,k=>by
  show (fid a k,f k)::jet a f (k+1) (n+1) l=(fid a k,f k)::jet a f (k+1) n _
  rw [jlQ a f l n (k+1),show k+1+n=k+(n+1) by omega]
theorem jox {l:List (Nat×Row)} {j:Nat} {r:Row} (h:jau l j=none) (i:Nat):jau (l++[(j,r)]) i=jau ((j,r)::l) i:=by
 rw [jbE]
 show _=if i=j then some r else jau l i
 by_cases e:i=j
 ·subst e;rw [h,if_pos rfl];simp [jau]
 ·rw [if_neg e];simp [jau,e]
theorem jkP {a n:Nat} (f':Nat→Row) {f:Nat→Row} {r:Row} {tl:List (Nat×Row)} (hf:∀ k,k < n→f k=f' k) (hr:r=f' n) (htl:jau tl (fid a n)=none) (i:Nat):jau (fam a n f (tl++[(fid a n,r)])) i=jau (fam a (n+1) f' tl) i:=by
 rw [jf0 rfl hf rfl]
 unfold fam
 rw [jlQ,Nat.zero_add,hr]
 exact jfH a f' (fun i=>jox htl i) n 0 i
theorem jnk {tl:List (Nat×Row)} (h:low tl) (a k:Nat):jau tl (fid a k)=none:=by
 cases e:jau tl (fid a k) with
 | none=>rfl
 | some r=>have:=(h _ _ e).2;have:=jcs a k;omega
theorem jkO {n h:Nat} (s' p':Nat→Row) {s p q:Nat→Row} {r0 r1:Row} {tl:List (Nat×Row)} (hs:∀ k,k < n→s k=s' k) (hp:∀ k,k < n→p k=p' k) (h0:r0=s' n) (h1:r1=p' n) (hl:low tl) (i:Nat) :
  jau (fam 0 n s (fam 1 n p (fam 2 h q (tl++[(fid 1 n,r1),(fid 0 n,r0)])))) i=jau (fam 0 (n+1) s' (fam 1 (n+1) p' (fam 2 h q tl))) i:=by
 have e:fam 1 n p (fam 2 h q (tl++[(fid 1 n,r1),(fid 0 n,r0)]))=fam 1 n p (fam 2 h q tl++[(fid 1 n,r1)])++[(fid 0 n,r0)]:=by
  rw [show tl++[(fid 1 n,r1),(fid 0 n,r0)]=(tl++[(fid 1 n,r1)])++[(fid 0 n,r0)] by simp,jed,jed,jed 2 h q tl]
 have z0:jau (fam 2 h q tl) (fid 0 n)=none:=by rw [jbt _ _ _ _ _ _ (by omega) (by omega) (by omega)];exact jnk hl _ _
 have z1:jau (fam 2 h q tl) (fid 1 n)=none:=by rw [jbt _ _ _ _ _ _ (by omega) (by omega) (by omega)];exact jnk hl _ _
 rw [e,jkP s' hs h0 (by
  rw [jbt _ _ _ _ _ _ (by omega) (by omega) (by omega),jbE,z0]
  simp [jau,jqB 0 1 n n (by omega) (by omega) (by omega)])]
 exact jaY 0 (n+1) s' (fun i=>jkP p' hp h1 z1 i) i
theorem jkN {n h:Nat} (q':Nat→Row) {s p q:Nat→Row} {r:Row} {tl:List (Nat×Row)} (hq:∀ k,k < h→q k=q' k) (h2:r=q' h) (hl:low tl) (i:Nat) :
  jau (fam 0 n s (fam 1 n p (fam 2 h q (tl++[(fid 2 h,r)])))) i=jau (fam 0 n s (fam 1 n p (fam 2 (h+1) q' tl))) i:=
 jaY 0 n s (fun i=>jaY 1 n p (fun i=>jkP q' hq h2 (jnk hl _ _) i) i) i
theorem jzg {P:Program} {fn:Func} {F:List AV} {H:Hp} {out:List AV} {e:Exit} {r0:AV} {t t':TypeId} {pre post pre' post':List AV} {R R':RS} {tl l:List (Nat×Row)} {B:List Nat} (hH:H=⟨B,l⟩) (hperm:∀ i,jau l i=jau (R'.e t' pre' post' tl) i) (hB:ids (R.e t pre post [])=B) (rs:List ResultVar) (hl:low tl) (hp:jaE noQ pre'=true) (hq:jaE noQ post'=true) (hr:r0.all noQ=true)
  (hrs:fn.results.toList=rs:=by rfl) (he:e=.normal∨e=.ret:=by first | exact Or.inr rfl | exact Or.inl rfl | fail) (ho:jgC P H F rs=some out:=by first | rfl | (simp (disch:=first | omega | fail) only [go_sem,↓reduceIte,Nat.reduceEqDiff,Nat.reduceLeDiff,Nat.reduceSub,Nat.reduceAdd];rfl)) (hok:jbW P H F rs:=by first | exact True.intro | (simp (disch:=first | omega | fail) only [go_sem,↓reduceIte,Nat.reduceEqDiff,Nat.reduceLeDiff,Nat.reduceSub,Nat.reduceAdd])) (hv:jby out=r0:=by first | rfl | (simp only [go_sem];done)):jjz P fn (fun r l=>r=r0∧l=R'.e t' pre' post' []) e F H:=by
 subst hrs hH
 obtain ⟨h1,h2,h3⟩:=RS.free (R':=R') (t':=t') (pre':=pre') (post':=post') hB hl hp hq
 exact jkk he ho hok r0 ⟨B,R'.e t' pre' post' []⟩ ((joU (R'.e t' pre' post' tl) hperm).trans (by
  have:=RLe.free (H:=⟨B,R'.e t' pre' post' tl⟩) Go.Gd.lowQ h1 h2 (jks hv (jdu (fun _ h=>by cases h) _ (hv ▸ hr)))
  rw [h3] at this
  exact this)) ⟨rfl,rfl⟩
theorem RS.getL {t:TypeId} {pre post:List AV} {R:RS} {tl:List (Nat×Row)} (i:Nat) (h:4≤i) (h':i < 1000):jau (R.e t pre post tl) i=jau tl i:=by
 rw [RS.e_app,jbE,RS.no i h h'];rfl
theorem joz (a k:Nat):lowQ (fid a k)=false:=by
 unfold lowQ
 refine decide_eq_false fun h=>?_
 have:=jcs a k;omega
def jvu (p:GProg) (k:Int):GPlace:=⟨(nth p.tree.fns k.toNat).body,0⟩
def j0N (p:GProg) (fn:Int) (args:List GValue) (n:Nat):List (Nat×Row):=[(fid 1 n,.vec 89 2 ([jvu p fn].map jaV)),(fid 0 n,.vec 59 3 ((jbh p fn args).slots.map jak))]
def j2h (p:GProg) (fn:Int) (args:List GValue) (n:Nat):List AV:=[.raw (.int .i64 fn),.rs (fid 0 n) (jbh p fn args).slots.length 3 (jbh p fn args).slots.length,.rs (fid 1 n) 1 2 1]
end Go.Gd
namespace Go.Proofs.YtfkgcobaheegbaaGreatDoor
open Go Go.Gd
set_option maxHeartbeats 2000000
set_option maxRecDepth 10000
end Go.Proofs.YtfkgcobaheegbaaGreatDoor
namespace Go.Gd
open Go
theorem RS.e_deeper {t:TypeId} {pre post:List AV} {R:RS} {tl:List (Nat×Row)} {k:Nat} (hk:k < R.frs.length) (hj:nth R.jp k=[]) {c0:List AV} {f:Nat→List AV} {s:Nat→Row} {x:GPlace} (hc:c0=pre++R.c++post)
  (hf:∀ j,f j=if j=k then [.raw (.int .i64 (nth R.frs k).fn),.rs (fid 0 k) (nth R.frs k).slots.length 3 (nth R.frs k).slots.length,.rs (fid 1 k) ((nth R.frs k).path.length+1) 2 ((nth R.frs k).path.length+1)] else R.fr j) (h1:∀ j,s j=if j=k then .vec 89 2 (((nth R.frs k).path++[x]).map jaV) else R.pt j) :
  (0,.var t c0)::(1,.vec 57 3 (tab R.frs.length f))::(2,.vec 22 1 (tab R.heap.length fun k=>[.rs (fid 2 k) (nth R.heap k).length 1 (nth R.heap k).length]))::(3,.vec 9 1 (R.out_.map eS)) ::
   fam 0 R.frs.length R.sl (fam 1 R.frs.length s (fam 2 R.heap.length R.hp tl))=(R.upd k { nth R.frs k with path:=(nth R.frs k).path++[x] }).e t pre post tl:=by
 have hu:=RS.nth_upd hk { nth R.frs k with path:=(nth R.frs k).path++[x] }
 refine RS.e_mk (by rw [hc,RS.upd_c]) RS.upd_len (fun j hj'=>?_) rfl (fun _ _=>rfl) rfl rfl rfl rfl (fun j hj'=>?_) (fun j hj'=>?_) (fun _ _=>rfl) rfl
 ·rw [hf]
  simp only [RS.fr,hu]
  split
  ·rename_i e;subst e;simp [hj,RS.upd]
  ·rfl
 ·simp only [RS.sl,hu]
  split
  ·rename_i e;subst e;rfl
  ·rfl
 ·rw [h1]
  simp only [RS.pt,hu]
  split
  ·rename_i e;subst e;simp [hj,RS.upd]
  ·rfl
def RS.grow (R:RS) (l:List Int):RS:={ R with heap:=R.heap++[l] }
theorem jbs {l l':List (Nat×Row)} (j:Nat) {r r':Row} (hr:r=r') (h:∀ i,jau l i=jau l' i):∀ i,jau ((j,r)::l) i=jau ((j,r')::l') i:=by subst hr;exact jaM j r h
theorem RS.perm_grow {t:TypeId} {pre post:List AV} {R:RS} {tl tl0:List (Nat×Row)} {l:List Int} {c0:List AV} {hr:Nat→List AV} {r:Row} (hc:c0=pre++(R.grow l).c++post) (hhr:∀ k,k < R.heap.length+1→hr k=[.rs (fid 2 k) (nth (R.heap++[l]) k).length 1 (nth (R.heap++[l]) k).length]) (hrr:r=.vec 3 1 (l.map eI)) (ht:∀ i,jau tl0 i=jau (tl++[(fid 2 R.heap.length,r)]) i) (hl:low tl) :
  ∀ i,jau ((0,.var t c0)::(1,.vec 57 3 (tab R.frs.length R.fr))::(2,.vec 22 1 (tab (R.heap.length+1) hr))::(3,.vec 9 1 (R.out_.map eS))::fam 0 R.frs.length R.sl (fam 1 R.frs.length R.pt (fam 2 R.heap.length R.hp tl0))) i=jau ((R.grow l).e t pre post tl) i:=by
 have hlen:(R.grow l).heap.length=R.heap.length+1:=by simp [RS.grow]
 refine jbs _ (by rw [hc]) (jbs _ rfl (jbs _ ?_ (jbs _ rfl fun i=>?_)))
 ·rw [jch (g:=fun k=>[.rs (fid 2 k) (nth (R.grow l).heap k).length 1 (nth (R.grow l).heap k).length]) hlen.symm fun j hj=>hhr j hj]
 ·rw [jaY 0 _ _ (fun i=>jaY 1 _ _ (fun i=>jaY 2 _ _ ht i) i) i]
  rw [jkN (R.grow l).hp (fun k hk=>?_) ?_ hl,hlen]
  ·rfl
  ·show r=Row.vec _ _ ((nth (R.heap++[l]) R.heap.length).map eI)
   rw [jdc,hrr]
  ·show Row.vec _ _ _=Row.vec _ _ ((nth (R.heap++[l]) k).map eI)
   rw [jbe hk]
end Go.Gd
namespace Go.Proofs.YtfkgcobaheegbaaGreatDoor
open Go Go.Gd
set_option maxHeartbeats 2000000
set_option maxRecDepth 10000
end Go.Proofs.YtfkgcobaheegbaaGreatDoor
namespace Go.Gd
open Go
def RS.lset (R:RS) (k:Nat) (l:List Int):RS:={ R with heap:=R.heap.set k l }
theorem RS.e_lset {t:TypeId} {pre post:List AV} {R:RS} {tl:List (Nat×Row)} {k:Nat} (hk:k < R.heap.length) {c0:List AV} {q:Nat→Row} {l:List Int} (hl:l.length=(nth R.heap k).length) (hc:c0=pre++R.c++post) (h1:∀ j,q j=if j=k then .vec 3 1 (l.map eI) else R.hp j) :
  (0,.var t c0)::(1,.vec 57 3 (tab R.frs.length R.fr))::(2,.vec 22 1 (tab R.heap.length fun k=>[.rs (fid 2 k) (nth R.heap k).length 1 (nth R.heap k).length]))::(3,.vec 9 1 (R.out_.map eS)) ::
   fam 0 R.frs.length R.sl (fam 1 R.frs.length R.pt (fam 2 R.heap.length q tl))=(R.lset k l).e t pre post tl:=by
 have hu:∀ j,nth (R.lset k l).heap j=if j=k then l else nth R.heap j:=fun j=>Go.Gd.nth_upd _ _ _ _ hk
 have hlen:(R.lset k l).heap.length=R.heap.length:=by simp [RS.lset]
 refine RS.e_mk (R:=R.lset k l) (by rw [hc];simp [RS.c,RS.lset]) rfl (fun _ _=>rfl) hlen.symm (fun j _=>?_) rfl rfl rfl rfl (fun _ _=>rfl) (fun _ _=>rfl) (fun j _=>?_) rfl
 ·rw [hu]
  split
  ·rename_i e;subst e;rw [hl]
  ·rfl
 ·rw [h1]
  simp only [RS.hp,hu]
  split<;>rfl
theorem jaf {tl:List (Nat×Row)} (h:(ids tl).all (fun i=>decide (4≤i∧i < 1000))=true:=by rfl):low tl:=fun i r hi=>of_decide_eq_true (List.all_eq_true.1 h i ((jcC _ _).2 (by rw [hi];simp)))
theorem cE4 {P:Program} {f:FuncId} {args:List AV} {H:Hp} {K:AV→Hp→Prop} {t:TypeId} {pre post pre' post':List AV} {R R':RS} {r0:AV} {B:List Nat} {tl:List (Nat×Row)} (hc:ACalls P f args (R.e t pre post []) fun r l'=>r=r0∧l'=R'.e t pre' post' []) (hH:H=⟨B,R.e t pre post tl⟩)
  (h1:R.frs.length≤R'.frs.length) (h2:R.heap.length≤R'.heap.length) (hp:jaE noQ pre=true) (hq:jaE noQ post=true) (hl:low tl) (ha:jaE (fun i=>decide (i < 4)) args=true) (h0:jad P f=true) (k:K r0 ⟨B,R'.e t pre' post' tl⟩):jbq P (.raw (.func (.func f) #[] #[])) args H K:=by
 subst hH
 refine jbU h0 (jeY (E:=fun tl=>R.e t pre post tl) (E':=fun tl=>R'.e t pre' post' tl) hc (RS.lays hl) (RS.lays hl) RS.nodup (jbk (fun i hi=>?_) _ ha) (RS.closed hp hq) k (RS.size h1 h2))
 have hi:i < 4:=of_decide_eq_true hi
 match i,hi with
 | 0,_=>exact jdx RS.get0
 | 1,_=>exact jdx RS.get1
 | 2,_=>exact jdx RS.get2
 | 3,_=>exact jdx RS.get3
theorem jv4 {P:Program} {fn:Func} {F:List AV} {H:Hp} {out:List AV} {e:Exit} {r0:AV} {t t':TypeId} {pre post pre' post':List AV} {R R':RS} {tl:List (Nat×Row)} {B:List Nat} (hH:H=⟨B,R'.e t' pre' post' tl⟩) (hB:ids (R.e t pre post [])=B) (rs:List ResultVar) (hl:low tl) (hp:jaE noQ pre'=true) (hq:jaE noQ post'=true) (hr:r0.all (jcQ lowQ)=true)
  (hrs:fn.results.toList=rs:=by rfl) (he:e=.normal∨e=.ret:=by first | exact Or.inr rfl | exact Or.inl rfl | fail) (ho:jgC P H F rs=some out:=by first | rfl | (simp (disch:=first | omega | fail) only [go_sem,↓reduceIte,Nat.reduceEqDiff,Nat.reduceLeDiff,Nat.reduceSub,Nat.reduceAdd];rfl)) (hok:jbW P H F rs:=by first | exact True.intro | (simp (disch:=first | omega | fail) only [go_sem,↓reduceIte,Nat.reduceEqDiff,Nat.reduceLeDiff,Nat.reduceSub,Nat.reduceAdd])) (hv:jby out=r0:=by first | rfl | (simp only [go_sem];done)):jjz P fn (fun r l=>r=r0∧l=R'.e t' pre' post' []) e F H:=by
 subst hrs hH
 obtain ⟨h1,h2,h3⟩:=RS.free (R':=R') (t':=t') (pre':=pre') (post':=post') hB hl hp hq
 exact jia Go.Gd.lowQ he ho hok h1 h2 (jks hv (hv ▸ hr)) h3
def RS.listA (R:RS) (v:GValue):AV:=if v.ty≠4∨v.n < 1∨(R.heap.length:Int) < v.n then .raw (.slice none 0 0) else .rs (fid 2 (v.n - 1).toNat) (nth R.heap (v.n - 1).toNat).length 1 (nth R.heap (v.n - 1).toNat).length
end Go.Gd
namespace Go.Proofs.YtfkgcobaheegbaaGreatDoor
open Go Go.Gd
set_option maxHeartbeats 2000000
set_option maxRecDepth 10000
theorem Doing.onOk {p:GProg} (h:SOk p) {R:RS} (hd:Doing p R):OnOk R:=by
 have hst:=hd.stAt h
 have e:=hd.topE
 have h1:=hst.pa
 have h2:=hst.pas
 have h3:=hst.a0
 have h4:=hst.ats
 rw [e] at h1 h2 h3 h4
 exact ⟨hd.inv.ok,hd.one,by have:=hd.inv.frs;omega,h1,h2,h3,h4⟩
theorem ji6 {R R':RS} (h:OnOk R) (h1:R'.frs=R.frs) (h2:R'.nf=R.nf) (h3:R'.jp=R.jp):OnOk R':=⟨⟨by rw [h1,h2];exact h.ok.nf,by rw [h1,h3];exact h.ok.jp⟩,by rw [h2];exact h.nf,by rw [h1];exact h.frs,by rw [h1,h2];exact h.pa,by rw [h1,h2];exact h.pas,by rw [h1,h2];exact h.a0,by rw [h1,h2];exact h.a1⟩
end Go.Proofs.YtfkgcobaheegbaaGreatDoor
