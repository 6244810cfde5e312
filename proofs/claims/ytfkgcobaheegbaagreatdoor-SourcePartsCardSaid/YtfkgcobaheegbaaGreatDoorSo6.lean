/- A state that goes on: other things are let go of beside it. What a program means: calls that begin. What a program means: jcs, lists, numbers that are put. What a program means: a number that is put. No conditions. -/
import Derived.Test.YtfkgcobaheegbaaGreatDoorWd
import Derived.Test.YtfkgcobaheegbaaGreatDoorGdR
set_option linter.all false
namespace Go.Gd
open Go
theorem RS.freeL {D:Nat→Bool} {t t':TypeId} {pre post pre' post':List AV} {R R':RS} {tl:List (Nat×Row)} {B:List Nat} (hB:ids (R.e t pre post [])=B) (hD:∀ i,(i < 4∨1000≤i)→D i=false) (hp:jaB noQ pre'=true) (hq:jaB noQ post'=true) (hs:jek D tl) :
  B.all (jcB D)=true∧jek D (R'.e t' pre' post' tl)∧ja9 D (R'.e t' pre' post' tl)=R'.e t' pre' post' (ja9 D tl):=by
 have hno:∀ {R:RS} {t:TypeId} {pre post:List AV} i,i∈ids (R.e t pre post [])→D i=false:=fun i hi=>hD i (by
  by_cases h:i < 4
  ·exact .inl h
  ·right
   apply Classical.byContradiction
   intro h'
   exact (jbY _ _).1 hi (RS.no i (by omega) (by omega)))
 refine ⟨?_,?_,?_⟩
 ·rw [List.all_eq_true]
  intro i hi
  rw [← hB] at hi
  unfold jcB
  rw [hno i hi];rfl
 ·rw [RS.e_app]
  refine jeW _ _ _ (jd0 _ _ RS.nodup fun i r hi=>jbg (fun k hk=>?_) _ (RS.closed hp hq i r hi)) hs
  unfold jcB
  rw [hno k (List.contains_iff_mem.1 hk)];rfl
 ·rw [RS.e_app,jdQ,jcG _ _ (fun i hi=>hno i hi),← RS.e_app]
theorem j1n {P:Program} {c:Code} {Q:Exit→List AV→Hp→Prop} {F F':List AV} {H:Hp} {t t':TypeId} {pre post pre' post':List AV} {R R':RS} {B:List Nat} (L:List Nat) (tl:List (Nat×Row)) (h00:(L.any fun i=>(jas tl i).isSome)=true) (hL:L.all (fun i=>decide (4≤i∧i < 1000))=true) (hH:H=⟨B,R'.e t' pre' post' tl⟩) (hB:ids (R.e t pre post [])=B) (hp:jaB noQ pre'=true) (hq:jaB noQ post'=true)
  (hs:jek (fun i=>L.contains i) tl) (hv:VToL (fun i=>L.contains i) H F F') (h:AWP P c Q F' ⟨B,R'.e t' pre' post' (ja9 (fun i=>L.contains i) tl)⟩):AWP P c Q F H:=by
 subst hH
 obtain ⟨h1,h2,h3⟩:=RS.freeL (D:=fun i=>L.contains i) (R':=R') (t':=t') (pre':=pre') (post':=post') (tl:=tl) hB (fun i hi=>by
  cases e:L.contains i with
  | false=>rfl
  | true=>
   have:=List.all_eq_true.1 hL i (List.contains_iff_mem.1 e)
   simp only [decide_eq_true_eq] at this
   omega) hp hq hs
 refine jaU (FLe.free _ h1 h2 hv) ?_
 show AWP P c Q F' ⟨B,ja9 _ (R'.e t' pre' post' tl)⟩
 rw [h3];exact h
theorem jaH {l l':List (Nat×Row)} (j:Nat) (r:Row) (h:∀ i,jas l i=jas l' i):∀ i,jas ((j,r)::l) i=jas ((j,r)::l') i:=fun i=>by
 show (if i=j then _ else _)=(if i=j then _ else _)
 rw [h i]
theorem jfo (a:Nat) (f:Nat→Row) {l l':List (Nat×Row)} (h:∀ i,jas l i=jas l' i):∀ (n k i:Nat),jas (jel a f k n l) i=jas (jel a f k n l') i
 | 0,k,i=>h i
 | n+1,k,i=>jaH _ _ (jfo a f h n (k+1)) i
theorem jaW (a n:Nat) (f:Nat→Row) {l l':List (Nat×Row)} (h:∀ i,jas l i=jas l' i) (i:Nat):jas (fam a n f l) i=jas (fam a n f l') i:=jfo a f h n 0 i
theorem jk4 (a:Nat) (f:Nat→Row) (l:List (Nat×Row)):∀ (n k:Nat),jel a f k (n+1) l=jel a f k n ((fid a (k+n),f (k+n))::l)
 | 0,k=>rfl
 | n+1,k=>by
  show (fid a k,f k)::jel a f (k+1) (n+1) l=(fid a k,f k)::jel a f (k+1) n _
  rw [jk4 a f l n (k+1),show k+1+n=k+(n+1) by omega]
theorem jnG {l:List (Nat×Row)} {j:Nat} {r:Row} (h:jas l j=none) (i:Nat):jas (l++[(j,r)]) i=jas ((j,r)::l) i:=by
 rw [jbB]
 show _=if i=j then some r else jas l i
 by_cases e:i=j
 ·subst e;rw [h,if_pos rfl];simp [jas]
 ·rw [if_neg e];simp [jas,e]
theorem jj3 {a n:Nat} (f':Nat→Row) {f:Nat→Row} {r:Row} {tl:List (Nat×Row)} (hf:∀ k,k < n→f k=f' k) (hr:r=f' n) (htl:jas tl (fid a n)=none) (i:Nat):jas (fam a n f (tl++[(fid a n,r)])) i=jas (fam a (n+1) f' tl) i:=by
 rw [jfH rfl hf rfl]
 unfold fam
 rw [jk4,Nat.zero_add,hr]
 exact jfo a f' (fun i=>jnG htl i) n 0 i
theorem jmA {tl:List (Nat×Row)} (h:low tl) (a k:Nat):jas tl (fid a k)=none:=by
 cases e:jas tl (fid a k) with
 | none=>rfl
 | some r=>have:=(h _ _ e).2;have:=jbU a k;omega
theorem jj2 {n h:Nat} (s' p':Nat→Row) {s p q:Nat→Row} {r0 r1:Row} {tl:List (Nat×Row)} (hs:∀ k,k < n→s k=s' k) (hp:∀ k,k < n→p k=p' k) (h0:r0=s' n) (h1:r1=p' n) (hl:low tl) (i:Nat) :
  jas (fam 0 n s (fam 1 n p (fam 2 h q (tl++[(fid 1 n,r1),(fid 0 n,r0)])))) i=jas (fam 0 (n+1) s' (fam 1 (n+1) p' (fam 2 h q tl))) i:=by
 have e:fam 1 n p (fam 2 h q (tl++[(fid 1 n,r1),(fid 0 n,r0)]))=fam 1 n p (fam 2 h q tl++[(fid 1 n,r1)])++[(fid 0 n,r0)]:=by
  rw [show tl++[(fid 1 n,r1),(fid 0 n,r0)]=(tl++[(fid 1 n,r1)])++[(fid 0 n,r0)] by simp,jd6,jd6,jd6 2 h q tl]
 have z0:jas (fam 2 h q tl) (fid 0 n)=none:=by rw [jbq _ _ _ _ _ _ (by omega) (by omega) (by omega)];exact jmA hl _ _
 have z1:jas (fam 2 h q tl) (fid 1 n)=none:=by rw [jbq _ _ _ _ _ _ (by omega) (by omega) (by omega)];exact jmA hl _ _
 rw [e,jj3 s' hs h0 (by
  rw [jbq _ _ _ _ _ _ (by omega) (by omega) (by omega),jbB,z0]
  simp [jas,jpV 0 1 n n (by omega) (by omega) (by omega)])]
 exact jaW 0 (n+1) s' (fun i=>jj3 p' hp h1 z1 i) i
theorem jj1 {n h:Nat} (q':Nat→Row) {s p q:Nat→Row} {r:Row} {tl:List (Nat×Row)} (hq:∀ k,k < h→q k=q' k) (h2:r=q' h) (hl:low tl) (i:Nat) :
  jas (fam 0 n s (fam 1 n p (fam 2 h q (tl++[(fid 2 h,r)])))) i=jas (fam 0 n s (fam 1 n p (fam 2 (h+1) q' tl))) i:=
 jaW 0 n s (fun i=>jaW 1 n p (fun i=>jj3 q' hq h2 (jmA hl _ _) i) i) i
theorem jsJ {P:Program} {fn:Func} {F:List AV} {H:Hp} {out:List AV} {e:Exit} {r0:AV} {t t':TypeId} {pre post pre' post':List AV} {R R':RS} {tl l:List (Nat×Row)} {B:List Nat} (hH:H=⟨B,l⟩) (hperm:∀ i,jas l i=jas (R'.e t' pre' post' tl) i) (hB:ids (R.e t pre post [])=B) (rs:List ResultVar) (hl:low tl) (hp:jaB noQ pre'=true) (hq:jaB noQ post'=true) (hr:r0.all noQ=true)
  (hrs:fn.results.toList=rs:=by rfl) (he:e=.normal∨e=.ret:=by first | exact Or.inr rfl | exact Or.inl rfl | fail) (ho:jgg P H F rs=some out:=by first | rfl | (simp (disch:=first | omega | fail) only [go_sem,↓reduceIte,Nat.reduceEqDiff,Nat.reduceLeDiff,Nat.reduceSub,Nat.reduceAdd];rfl)) (hok:jbT P H F rs:=by first | exact True.intro | (simp (disch:=first | omega | fail) only [go_sem,↓reduceIte,Nat.reduceEqDiff,Nat.reduceLeDiff,Nat.reduceSub,Nat.reduceAdd])) (hv:jbo out=r0:=by first | rfl | (simp only [go_sem];done)):jhu P fn (fun r l=>r=r0∧l=R'.e t' pre' post' []) e F H:=by
 subst hrs hH
 obtain ⟨h1,h2,h3⟩:=RS.free (R':=R') (t':=t') (pre':=pre') (post':=post') hB hl hp hq
 exact jjz he ho hok r0 ⟨B,R'.e t' pre' post' []⟩ ((jn3 (R'.e t' pre' post' tl) hperm).trans (by
  have:=RLe.free (H:=⟨B,R'.e t' pre' post' tl⟩) Go.Gd.lowQ h1 h2 (jiP hv (jds (fun _ h=>by cases h) _ (hv ▸ hr)))
  rw [h3] at this
  exact this)) ⟨rfl,rfl⟩
theorem RS.getL {t:TypeId} {pre post:List AV} {R:RS} {tl:List (Nat×Row)} (i:Nat) (h:4≤i) (h':i < 1000):jas (R.e t pre post tl) i=jas tl i:=by
 rw [RS.e_app,jbB,RS.no i h h'];rfl
theorem jeQ (a k:Nat):lowQ (fid a k)=false:=by
 unfold lowQ
 refine decide_eq_false fun h=>?_
 have:=jbU a k;omega
theorem jkg (k:Nat) (h:4≤k) (h2:k < 1000):lowQ k=true:=decide_eq_true ⟨h,h2⟩
theorem j6P {P:Program} {fn:Func} {F:List AV} {l0:List (Nat×Row)} {out:List AV} {e:Exit} {r:AV} {l:List (Nat×Row)} (rs:List ResultVar) (hv:jbo out=r) (hl:jek lowQ l0) (hq:(jbo out).all (jcB lowQ)=true) (h2:ja9 lowQ l0=l) (hrs:fn.results.toList=rs:=by rfl) (he:e=.normal∨e=.ret:=by first | exact Or.inr rfl | exact Or.inl rfl | fail)
  (ho:jgg P ⟨[],l0⟩ F rs=some out:=by first | (simp (disch:=first | omega | fail) only [go_sem,↓reduceIte,Nat.reduceEqDiff,Nat.reduceLeDiff,Nat.reduceSub,Nat.reduceAdd];rfl) | rfl) (hok:jbT P ⟨[],l0⟩ F rs:=by first | exact True.intro | (simp (disch:=first | omega | fail) only [go_sem,↓reduceIte,Nat.reduceEqDiff,Nat.reduceLeDiff,Nat.reduceSub,Nat.reduceAdd])):jhu P fn (fun r' l'=>r'=r∧l'=l) e F ⟨[],l0⟩:=by
 subst hrs
 exact jfZ lowQ he ho hok rfl hl (jiP hv hq) h2
def jmr (p:GProg) (k:Int):GPlace:=⟨(nth p.tree.fns k.toNat).body,0⟩
def jtM (p:GProg) (fn:Int) (args:List GValue) (n:Nat):List (Nat×Row):=[(fid 1 n,.vec 89 2 ([jmr p fn].map jay)),(fid 0 n,.vec 59 3 ((jbi p fn args).slots.map jag))]
def ju9 (p:GProg) (fn:Int) (args:List GValue) (n:Nat):List AV:=[.raw (.int .i64 fn),.rs (fid 0 n) (jbi p fn args).slots.length 3 (jbi p fn args).slots.length,.rs (fid 1 n) 1 2 1]
end Go.Gd
namespace Go.Proofs.YtfkgcobaheegbaaGreatDoor
open Go Go.Gd
set_option maxHeartbeats 2000000
set_option maxRecDepth 10000
theorem jsH (args:List GValue) (j:Nat):args++List.replicate j v0++[v0]=args++List.replicate (j+1) v0:=by
 rw [List.append_assoc,← List.replicate_succ']
theorem jnt {p:GProg} (h:SOk p) (k:Nat) (hk:k < p.tree.fns.length) (args:List GValue) (ha:args.length=(nth p.tree.fns k).params.length) (n:Nat) :
  ACalls Tryz.prog 59 [.agg (jam p),rI k,jal jag 3 args] [] (fun r l=>r=.agg (ju9 p k args n)∧l=jtM p k args n):=by
 obtain ⟨f1,f2,f3,f4⟩:=jfI h hk ha
 have hsz:=h.ok.size
 have hpar:=(h.fns k hk).par
 have hbig:=h.ok.tree.fns
 refine jaw Tryz.func59 Tryz.ntmps59 ?_
 (repeat' (first|refine jaa fun K hK=>?_|refine wkA ?_|(refine hK _ _ ?_;clear hK K)|(refine jad (fun hc=>?_) (fun hc=>?_)<;>first | contradiction | (exfalso;omega) | skip)|refine bxF 4 ?_|refine alF 5 ?_|refine alF 6 ?_|refine jnH (fid 1 n) ?_|refine jnH (fid 0 n) ?_|refine wkB ?_|exact True.intro|(clear hK K)))
 have hKo:=hK;clear hK
 have hlen:(jbi p k args).slots=args++List.replicate ((nth p.size k).toNat - args.length) v0:=by
  show args++List.replicate _ v0=_
  congr 2
  rw [Int.toNat_natCast];omega
 refine jah (S:=Nat) [(23,15)] (fun j=>args.length+j≤(nth p.size k).toNat) (fun j=>[])
  (fun j=>⟨[],[(4,.var 29 (jam p)),(5,.var 57 [rI 0,.raw (.slice none 0 0),.raw (.slice none 0 0)]),(fid 1 n,.vec 89 2 ([jmr p k].map jay)),(6,.var 57 [rI k,.rs (fid 0 n) (args.length+j) 3 (args.length+j),.rs (fid 1 n) 1 2 1]),(fid 0 n,.vec 59 3 ((args++List.replicate j v0).map jag))]⟩)
  (fun j=>(nth p.size k).toNat - j) 0 (by omega) (jaE (by simp only [List.replicate_zero,List.append_nil,Nat.add_zero];rfl) lle) ?_
 rintro j hj Kr hKr
 have hl:(args++List.replicate j v0).length=args.length+j:=by simp
 (refine S ?_;try exact True.intro)
 (have W:=hl;repeat' (first|refine jaa fun K hK=>?_|refine wkA ?_|(with_reducible refine gR 3 ?_);refine dE 3 [0,1,2,3,4,5,6,7,8] mixed ?_|(refine hK _ _ ?_;clear hK K)|(refine jad (fun hc=>?_) (fun hc=>?_)<;>first | contradiction | (exfalso;omega) | skip)|(refine hKo _ _ ?_)|refine wkB ?_|exact True.intro|(clear hK K)));all_goals (try clear W)
 ·refine hKr _ _ (jau (j+1) (by show args.length+(j+1)≤_;omega) (by show _ - (j+1) < _ - j;omega) ?_ lle)
  have e:(args++List.replicate (j+1) v0).map jag=List.map jag args++List.map jag (List.replicate j v0)++[jag v0]:=by
   rw [← jsH,List.map_append,List.map_append];rfl
  rw [e]
  rfl
 ·have hjn:j=(nth p.size k).toNat - args.length:=by omega
  have hn:args.length+j=(jbi p k args).slots.length:=by omega
  have e:ju9 p k args n=[rI k,.rs (fid 0 n) (args.length+j) 3 (args.length+j),.rs (fid 1 n) 1 2 1]:=by unfold ju9;rw [hn]
  have e2:jtM p k args n=[(fid 1 n,.vec 89 2 ([jmr p k].map jay)),(fid 0 n,.vec 59 3 ((args++List.replicate j v0).map jag))]:=by unfold jtM;rw [hlen,← hjn]
  rw [e,e2]
  refine j6P [.cell 6 57] ?_ ?_ ?_ ?_
  ·rfl
  ·simp (disch:=omega) only [go_sem,jeQ,jkg]
  ·simp (disch:=omega) only [go_sem,jeQ,jkg]
  ·simp (disch:=omega) only [go_sem,jeQ,jkg]
end Go.Proofs.YtfkgcobaheegbaaGreatDoor
namespace Go.Gd
open Go
theorem RS.e_deeper {t:TypeId} {pre post:List AV} {R:RS} {tl:List (Nat×Row)} {k:Nat} (hk:k < R.frs.length) (hj:nth R.jp k=[]) {c0:List AV} {f:Nat→List AV} {s:Nat→Row} {x:GPlace} (hc:c0=pre++R.c++post)
  (hf:∀ j,f j=if j=k then [.raw (.int .i64 (nth R.frs k).fn),.rs (fid 0 k) (nth R.frs k).slots.length 3 (nth R.frs k).slots.length,.rs (fid 1 k) ((nth R.frs k).path.length+1) 2 ((nth R.frs k).path.length+1)] else R.fr j) (h1:∀ j,s j=if j=k then .vec 89 2 (((nth R.frs k).path++[x]).map jay) else R.pt j) :
  (0,.var t c0)::(1,.vec 57 3 (tab R.frs.length f))::(2,.vec 22 1 (tab R.heap.length fun k=>[.rs (fid 2 k) (nth R.heap k).length 1 (nth R.heap k).length]))::(3,.vec 9 1 (R.out_.map eS)) ::
   fam 0 R.frs.length R.sl (fam 1 R.frs.length s (fam 2 R.heap.length R.hp tl))=(R.upd k { nth R.frs k with path:=(nth R.frs k).path++[x] }).e t pre post tl:=by
 have hu:=RS.nth_upd hk { nth R.frs k with path:=(nth R.frs k).path++[x] }
 refine RS.e_mk (by rw [hc,RS.upd_c]) RS.upd_len (fun j hj'=>?_) rfl (fun _ _=>rfl) rfl rfl rfl rfl (fun j hj'=>?_) (fun j hj'=>?_) (fun _ _=>rfl) rfl
 ·rw [hf]
  simp only [RS.fr,hu]
  split
  ·rename_i e;subst e;simp [hj,RS.upd]
  ·rfl
 ·simp only [RS.sl,hu]
  split
  ·rename_i e;subst e;rfl
  ·rfl
 ·rw [h1]
  simp only [RS.pt,hu]
  split
  ·rename_i e;subst e;simp [hj,RS.upd]
  ·rfl
def RS.grow (R:RS) (l:List Int):RS:={ R with heap:=R.heap++[l] }
theorem jbp {l l':List (Nat×Row)} (j:Nat) {r r':Row} (hr:r=r') (h:∀ i,jas l i=jas l' i):∀ i,jas ((j,r)::l) i=jas ((j,r')::l') i:=by subst hr;exact jaH j r h
theorem RS.perm_grow {t:TypeId} {pre post:List AV} {R:RS} {tl tl0:List (Nat×Row)} {l:List Int} {c0:List AV} {hr:Nat→List AV} {r:Row} (hc:c0=pre++(R.grow l).c++post) (hhr:∀ k,k < R.heap.length+1→hr k=[.rs (fid 2 k) (nth (R.heap++[l]) k).length 1 (nth (R.heap++[l]) k).length]) (hrr:r=.vec 3 1 (l.map eI)) (ht:∀ i,jas tl0 i=jas (tl++[(fid 2 R.heap.length,r)]) i) (hl:low tl) :
  ∀ i,jas ((0,.var t c0)::(1,.vec 57 3 (tab R.frs.length R.fr))::(2,.vec 22 1 (tab (R.heap.length+1) hr))::(3,.vec 9 1 (R.out_.map eS))::fam 0 R.frs.length R.sl (fam 1 R.frs.length R.pt (fam 2 R.heap.length R.hp tl0))) i=jas ((R.grow l).e t pre post tl) i:=by
 have hlen:(R.grow l).heap.length=R.heap.length+1:=by simp [RS.grow]
 refine jbp _ (by rw [hc]) (jbp _ rfl (jbp _ ?_ (jbp _ rfl fun i=>?_)))
 ·rw [jch (g:=fun k=>[.rs (fid 2 k) (nth (R.grow l).heap k).length 1 (nth (R.grow l).heap k).length]) hlen.symm fun j hj=>hhr j hj]
 ·rw [jaW 0 _ _ (fun i=>jaW 1 _ _ (fun i=>jaW 2 _ _ ht i) i) i]
  rw [jj1 (R.grow l).hp (fun k hk=>?_) ?_ hl,hlen]
  ·rfl
  ·show r=Row.vec _ _ ((nth (R.heap++[l]) R.heap.length).map eI)
   rw [jcL,hrr]
  ·show Row.vec _ _ _=Row.vec _ _ ((nth (R.heap++[l]) k).map eI)
   rw [jbb hk]
end Go.Gd
namespace Go.Proofs.YtfkgcobaheegbaaGreatDoor
open Go Go.Gd
theorem jnJ {i j k m:Nat} {r s u v:Row} (hi:4≤i∧i < 1000) (hj:4≤j∧j < 1000) (hk:4≤k∧k < 1000) (hm:4≤m∧m < 1000):low [(i,r),(j,s),(k,u),(m,v)]:=fun q x hq=>by
 have hq:q∈ids [(i,r),(j,s),(k,u),(m,v)]:=(jbY _ _).2 (by rw [hq];simp)
 simp [ids] at hq
 omega
set_option maxHeartbeats 2000000
set_option maxRecDepth 10000
theorem jkV (R:RS) (b:Int) (hok:R.Ok) (h1:1≤R.nf) (h8:R.frs.length≤1000) (hj:nth R.jp (R.nf - 1)=[]) (hp:R.topF.path.length≤1000) :
  ACalls Tryz.prog 122 [.pt 0 0 0 0,rI b] (R.e 39 [] [] []) (fun r l=>r=.tup []∧l=(R.deeper b).e 39 [] [] []):=by
 have hnf:=hok.nf
 have hk:R.nf - 1 < R.frs.length:=by omega
 have hjl:(nth R.jp (R.nf - 1)).length=0:=by rw [hj];rfl
 have hp:(nth R.frs (R.nf - 1)).path.length≤1000:=hp
 refine jaw Tryz.func122 Tryz.ntmps122 ?_
 generalize hB:ids (R.e 39 [] [] [])=B
 generalize hE:(R.deeper b).e 39 [] [] []=E
 (refine S ?_;try exact True.intro)
 (have W:=And.intro hj (hjl);repeat' (first|refine jaa fun K hK=>?_|refine wkA ?_|(with_reducible refine gR 0 ?_);refine dE 0 [0,1,2,3,4,5,6,7,8,9,10,11] mixed ?_|(refine hK _ _ ?_;clear hK K)|(refine jad (fun hc=>?_) (fun hc=>?_)<;>first | contradiction | (exfalso;omega) | skip)|refine wkB ?_|exact True.intro|(clear hK K)));all_goals (try clear W)
 subst hE
 refine jb8 (R':=R.deeper b) (tl:=[]) (congrArg (Hp.mk B) (RS.e_deeper (x:=⟨b,0⟩) hk hj rfl (fun j=>rfl) fun j=>?_)) hB [] (fun i r h=>by cases h) rfl rfl rfl
 by_cases e:j=R.nf - 1
 ·rw [if_pos e,if_pos e,List.map_append];rfl
 ·rw [if_neg e,if_neg e];unfold RS.pt;rw [List.map_append]
theorem jsa {p:GProg} (h:SOk p) (R:RS) (hd:Doing p R) (a:Int) (h0:0≤a) (hl:a.toNat < p.tree.nodes.length) (hk:(jak p a).kind=20) :
  ACalls Tryz.prog 164 [.agg (jam p),.pt 0 0 0 0,rI a] (R.e 39 [] [] []) (fun r l=>r=.tup [rV (R.fresh p a).2.1,rI (R.fresh p a).2.2]∧l=(R.fresh p a).1.e 39 [] [] []):=by
 have hok:=hd.inv.ok
 have hnf:=hok.nf
 have h1:=hd.one
 have hfr:=hd.inv.frs
 have hcl:=jaO R.heap
 have hcc:=hd.cells
 obtain ⟨x,hla,hx⟩:=(h.ok.tree.shape a.toNat hl).1.one (.inr (.inr (.inr (.inr (.inr hk)))))
 have hkid:=(h.ok.tree.shape a.toNat hl).2.1 x (by rw [hla];simp)
 have hx0:nth (nth p.tree.nodes a.toNat).l 0=x:=by rw [hla];rfl
 have hll:(nth p.tree.nodes a.toNat).l.length=1:=by rw [hla];rfl
 have hv:=jc9 h R hok h1 (by omega) (by omega) x hkid.1 (by omega) hx
 have hcel:=jnf R.heap (by omega)
 have hlow:∀ (i:Nat) (x y z:Row),low [(4,x),(5,y),(6,z)]:=fun i x y z=>jli (by omega) (by omega) (by omega)
 have hdef:R.fresh p a=(let v:=R.val p x;if v.2≠0 then (R,v0,v.2) else if v.1.n < 0∨16 < v.1.n then (R,v0,7) else if 40 < jbh R.heap+v.1.n+1 then (R,v0,4) else (R.grow (List.replicate v.1.n.toNat 0),⟨4,R.heap.length+1,sE⟩,0)):=by
  unfold RS.fresh;rw [show nth (jak p a).l 0=x from hx0];rfl
 rw [hdef]
 have hval:∀ (X:GValue×Int),X=R.val p x→True:=fun _ _=>trivial
 generalize R.val p x=X at hv ⊢
 have fin:∀ (R':RS) (v:GValue) (tr:Int),(X.2≠0∧R'=R∧v=v0∧tr=X.2)∨(X.2=0∧(X.1.n < 0∨16 < X.1.n)∧R'=R∧v=v0∧tr=7)∨(X.2=0∧0≤X.1.n∧X.1.n≤16∧40 < jbh R.heap+X.1.n+1∧R'=R∧v=v0∧tr=4)→
   ACalls Tryz.prog 164 [.agg (jam p),.pt 0 0 0 0,rI a] (R.e 39 [] [] []) (fun r l=>r=.tup [rV v,rI tr]∧l=R'.e 39 [] [] []):=fun R' v tr hh=>by
  refine jaw Tryz.func164 Tryz.ntmps164 ?_
  generalize hB:ids (R.e 39 [] [] [])=B
  generalize hE:R'.e 39 [] [] []=E
  (refine S ?_;try exact True.intro)
  rcases hh with ⟨c0,rfl,rfl,rfl⟩ | ⟨c0,c1,rfl,rfl,rfl⟩ | ⟨c0,c1,c2,c3,rfl,rfl,rfl⟩
  all_goals
   (have W:=And.intro hx0 (hll);repeat' (first|refine jaa fun K hK=>?_|refine wkA ?_|(with_reducible refine gR 1 ?_);refine dL 1 [] [15] [0,1,2,3,4,5,6,7,8,9,10,11,12,13,14,15,16,17] mixed ?_|(with_reducible refine gR 6 ?_);refine dQ 6 mixed ?_|(refine hK _ _ ?_;clear hK K)|(refine jad (fun hc=>?_) (fun hc=>?_)<;>first | contradiction | (exfalso;omega) | skip)|refine bxF 4 ?_|refine alF 5 ?_|refine alF 6 ?_|(refine cE (R:=R') (R':=R') (pre:=[]) (post:=[]) (pre':=[]) (post':=[]) hv rfl (Nat.le_refl _) (Nat.le_refl _) rfl rfl (jgy (by omega) (by omega)) rfl (by simp only [go_sem]) ?_;(refine S ?_;try exact True.intro))|(refine cE (R:=R') (R':=R') (pre:=[]) (post:=[]) (pre':=[]) (post':=[]) hv rfl (Nat.le_refl _) (Nat.le_refl _) rfl rfl (hlow 0 _ _ _) rfl (by simp only [go_sem]) ?_;(refine S ?_;try exact True.intro))|(refine cqL (args':=[rHp R'.heap]) hcel (show VToL _ ⟨B,R'.e 39 [] [] _⟩ _ _ from ⟨RS.vtoH (fun _=>rfl),trivial⟩) rfl (by simp only [go_sem]) ?_;(refine S ?_;try exact True.intro))|refine wkB ?_|exact True.intro|(clear hK K)));all_goals (try clear W)
  all_goals
   subst hE
   exact jb8 (R':=R') (tl:=[(4,.var 29 (jam p)),(5,.var 59 (jag v0)),(6,.var 59 (jag X.1))]) rfl hB [.cell 6 59,.tmp 7] (hlow 0 _ _ _) rfl rfl rfl
 by_cases c0:X.2=0
 rotate_left
 ·simp only
  rw [if_pos c0]
  exact fin R v0 X.2 (.inl ⟨c0,rfl,rfl,rfl⟩)
 simp only
 rw [if_neg (fun h=>h c0)]
 by_cases c1:X.1.n < 0∨16 < X.1.n
 ·rw [if_pos c1]
  exact fin R v0 7 (.inr (.inl ⟨c0,c1,rfl,rfl,rfl⟩))
 rw [if_neg c1]
 by_cases c2:40 < jbh R.heap+X.1.n+1
 ·rw [if_pos c2]
  exact fin R v0 4 (.inr (.inr ⟨c0,by omega,by omega,c2,rfl,rfl,rfl⟩))
 rw [if_neg c2]
 obtain ⟨m,hm⟩:∃ m:Nat,X.1.n=(m:Int):=⟨X.1.n.toNat,by omega⟩
 rw [hm] at c1 c2 ⊢
 rw [Int.toNat_natCast]
 refine jaw Tryz.func164 Tryz.ntmps164 ?_
 generalize hB:ids (R.e 39 [] [] [])=B
 generalize hE:(R.grow (List.replicate m 0)).e 39 [] [] []=E
 (refine S ?_;try exact True.intro)
 (have W:=And.intro hx0 (And.intro hll (hm));repeat' (first|refine jaa fun K hK=>?_|refine wkA ?_|(with_reducible refine gR 1 ?_);refine dL 1 [] [15] [0,1,2,3,4,5,6,7,8,9,10,11,12,13,14,15,16,17] mixed ?_|(with_reducible refine gR 6 ?_);refine dQ 6 mixed ?_|(with_reducible refine gR 8 ?_);refine dC 8 ([],[],[56,57]) [] [0,1,2,3,4,5,6,7,8,9,10,11,12] mixed ?_|(refine hK _ _ ?_;clear hK K)|(refine jad (fun hc=>?_) (fun hc=>?_)<;>first | contradiction | (exfalso;omega) | skip)|refine bxF 4 ?_|refine alF 5 ?_|refine alF 6 ?_|refine mkN (n:=m) (fid 2 R.heap.length) ?_|refine jwQ 7 ?_|(refine cE (R:=R) (R':=R) (pre:=[]) (post:=[]) (pre':=[]) (post':=[]) hv rfl (Nat.le_refl _) (Nat.le_refl _) rfl rfl (jgy (by omega) (by omega)) rfl (by simp only [go_sem]) ?_;(refine S ?_;try exact True.intro))|(refine cE (R:=R) (R':=R) (pre:=[]) (post:=[]) (pre':=[]) (post':=[]) hv rfl (Nat.le_refl _) (Nat.le_refl _) rfl rfl (hlow 0 _ _ _) rfl (by simp only [go_sem]) ?_;(refine S ?_;try exact True.intro))|(refine cqL (args':=[rHp R.heap]) hcel (show VToL _ ⟨B,R.e 39 [] [] _⟩ _ _ from ⟨RS.vtoH (fun _=>rfl),trivial⟩) rfl (by simp only [go_sem]) ?_;(refine S ?_;try exact True.intro))|refine wkB ?_|exact True.intro|(clear hK K)));all_goals (try clear W)
 subst hE
 refine jsJ (R':=R.grow (List.replicate m 0)) (tl:=[(4,.var 29 (jam p)),(5,.var 59 (jag ⟨4,R.heap.length+1,sE⟩)),(6,.var 59 (jag X.1)),(7,.vec 22 1 [[.rs (fid 2 R.heap.length) m 1 m]])]) rfl (RS.perm_grow (r:=.vec 3 1 (List.replicate m [rI 0])) ?_ (fun k hk=>?_) ?_ (fun i=>?_) (jnJ (by omega) (by omega) (by omega) (by omega))) hB [.cell 6 59,.tmp 7] (jnJ (by omega) (by omega) (by omega) (by omega)) rfl rfl rfl
 ·simp [RS.c,RS.grow]
 ·by_cases e:k=R.heap.length
  ·subst e;rw [if_pos rfl,jcL];simp
  ·rw [if_neg e,jbb (by omega)]
 ·rw [List.map_replicate];rfl
 ·simp only [jas,List.cons_append,List.nil_append]
  have hge:=jbU 2 R.heap.length
  repeat' split
  all_goals first
   | rfl
   | (exfalso;omega)
end Go.Proofs.YtfkgcobaheegbaaGreatDoor
namespace Go.Gd
open Go
def RS.lset (R:RS) (k:Nat) (l:List Int):RS:={ R with heap:=R.heap.set k l }
theorem RS.e_lset {t:TypeId} {pre post:List AV} {R:RS} {tl:List (Nat×Row)} {k:Nat} (hk:k < R.heap.length) {c0:List AV} {q:Nat→Row} {l:List Int} (hl:l.length=(nth R.heap k).length) (hc:c0=pre++R.c++post) (h1:∀ j,q j=if j=k then .vec 3 1 (l.map eI) else R.hp j) :
  (0,.var t c0)::(1,.vec 57 3 (tab R.frs.length R.fr))::(2,.vec 22 1 (tab R.heap.length fun k=>[.rs (fid 2 k) (nth R.heap k).length 1 (nth R.heap k).length]))::(3,.vec 9 1 (R.out_.map eS)) ::
   fam 0 R.frs.length R.sl (fam 1 R.frs.length R.pt (fam 2 R.heap.length q tl))=(R.lset k l).e t pre post tl:=by
 have hu:∀ j,nth (R.lset k l).heap j=if j=k then l else nth R.heap j:=fun j=>Go.Gd.nth_upd _ _ _ _ hk
 have hlen:(R.lset k l).heap.length=R.heap.length:=by simp [RS.lset]
 refine RS.e_mk (R:=R.lset k l) (by rw [hc];simp [RS.c,RS.lset]) rfl (fun _ _=>rfl) hlen.symm (fun j _=>?_) rfl rfl rfl rfl (fun _ _=>rfl) (fun _ _=>rfl) (fun j _=>?_) rfl
 ·rw [hu]
  split
  ·rename_i e;subst e;rw [hl]
  ·rfl
 ·rw [h1]
  simp only [RS.hp,hu]
  split<;>rfl
theorem jac {tl:List (Nat×Row)} (h:(ids tl).all (fun i=>decide (4≤i∧i < 1000))=true:=by rfl):low tl:=fun i r hi=>of_decide_eq_true (List.all_eq_true.1 h i ((jbY _ _).2 (by rw [hi];simp)))
theorem cE4 {P:Program} {f:FuncId} {args:List AV} {H:Hp} {K:AV→Hp→Prop} {t:TypeId} {pre post pre' post':List AV} {R R':RS} {r0:AV} {B:List Nat} {tl:List (Nat×Row)} (hc:ACalls P f args (R.e t pre post []) fun r l'=>r=r0∧l'=R'.e t pre' post' []) (hH:H=⟨B,R.e t pre post tl⟩)
  (h1:R.frs.length≤R'.frs.length) (h2:R.heap.length≤R'.heap.length) (hp:jaB noQ pre=true) (hq:jaB noQ post=true) (hl:low tl) (ha:jaB (fun i=>decide (i < 4)) args=true) (h0:jab P f=true) (k:K r0 ⟨B,R'.e t pre' post' tl⟩):jbm P (.raw (.func (.func f) #[] #[])) args H K:=by
 subst hH
 refine jbQ h0 (jeL (E:=fun tl=>R.e t pre post tl) (E':=fun tl=>R'.e t pre' post' tl) hc (RS.lays hl) (RS.lays hl) RS.nodup (jbg (fun i hi=>?_) _ ha) (RS.closed hp hq) k (RS.size h1 h2))
 have hi:i < 4:=of_decide_eq_true hi
 match i,hi with
 | 0,_=>exact jdu RS.get0
 | 1,_=>exact jdu RS.get1
 | 2,_=>exact jdu RS.get2
 | 3,_=>exact jdu RS.get3
theorem jsI {P:Program} {fn:Func} {F:List AV} {H:Hp} {out:List AV} {e:Exit} {r0:AV} {t t':TypeId} {pre post pre' post':List AV} {R R':RS} {tl:List (Nat×Row)} {B:List Nat} (hH:H=⟨B,R'.e t' pre' post' tl⟩) (hB:ids (R.e t pre post [])=B) (rs:List ResultVar) (hl:low tl) (hp:jaB noQ pre'=true) (hq:jaB noQ post'=true) (hr:r0.all (jcB lowQ)=true)
  (hrs:fn.results.toList=rs:=by rfl) (he:e=.normal∨e=.ret:=by first | exact Or.inr rfl | exact Or.inl rfl | fail) (ho:jgg P H F rs=some out:=by first | rfl | (simp (disch:=first | omega | fail) only [go_sem,↓reduceIte,Nat.reduceEqDiff,Nat.reduceLeDiff,Nat.reduceSub,Nat.reduceAdd];rfl)) (hok:jbT P H F rs:=by first | exact True.intro | (simp (disch:=first | omega | fail) only [go_sem,↓reduceIte,Nat.reduceEqDiff,Nat.reduceLeDiff,Nat.reduceSub,Nat.reduceAdd])) (hv:jbo out=r0:=by first | rfl | (simp only [go_sem];done)):jhu P fn (fun r l=>r=r0∧l=R'.e t' pre' post' []) e F H:=by
 subst hrs hH
 obtain ⟨h1,h2,h3⟩:=RS.free (R':=R') (t':=t') (pre':=pre') (post':=post') hB hl hp hq
 exact jfZ Go.Gd.lowQ he ho hok h1 h2 (jiP hv (hv ▸ hr)) h3
def RS.listA (R:RS) (v:GValue):AV:=if v.ty≠4∨v.n < 1∨(R.heap.length:Int) < v.n then .raw (.slice none 0 0) else .rs (fid 2 (v.n - 1).toNat) (nth R.heap (v.n - 1).toNat).length 1 (nth R.heap (v.n - 1).toNat).length
end Go.Gd
namespace Go.Proofs.YtfkgcobaheegbaaGreatDoor
open Go Go.Gd
set_option maxHeartbeats 2000000
set_option maxRecDepth 10000
theorem ju2 (R:RS) (v:GValue) (hh:R.heap.length≤1000000) :
  ACalls Tryz.prog 166 [.rs 2 R.heap.length 1 R.heap.length,rV v] (R.e 39 [] [] []) (fun r l=>r=R.listA v∧l=R.e 39 [] [] []):=by
 suffices key:∀ R':RS,R'=R→ACalls Tryz.prog 166 [.rs 2 R.heap.length 1 R.heap.length,rV v] (R.e 39 [] [] []) (fun r l=>r=R.listA v∧l=R'.e 39 [] [] []) from key R rfl
 intro R' hR'
 by_cases c:v.ty≠4∨v.n < 1∨(R.heap.length:Int) < v.n
 all_goals
  unfold RS.listA
  first | rw [if_pos c] | rw [if_neg c]
  refine jaw Tryz.func166 Tryz.ntmps166 ?_
  generalize hB:ids (R.e 39 [] [] [])=B
  generalize hE:R'.e 39 [] [] []=E
  (refine S ?_;try exact True.intro)
  (repeat' (first|refine jaa fun K hK=>?_|refine wkA ?_|(refine hK _ _ ?_;clear hK K)|(refine jad (fun hc=>?_) (fun hc=>?_)<;>first | contradiction | (exfalso;omega) | skip)|refine bxF 4 ?_|refine wkB ?_|exact True.intro|(clear hK K)))
  subst hE
  subst hR'
  exact jsI (R':=R') (pre':=[]) (post':=[]) rfl hB [.tmp 4] jac rfl rfl (by simp [go_sem,jeQ])
theorem Doing.onOk {p:GProg} (h:SOk p) {R:RS} (hd:Doing p R):OnOk R:=by
 have hst:=hd.stAt h
 have e:=hd.topE
 have h1:=hst.pa
 have h2:=hst.pas
 have h3:=hst.a0
 have h4:=hst.ats
 rw [e] at h1 h2 h3 h4
 exact ⟨hd.inv.ok,hd.one,by have:=hd.inv.frs;omega,h1,h2,h3,h4⟩
theorem jdV {R R':RS} (h:OnOk R) (h1:R'.frs=R.frs) (h2:R'.nf=R.nf) (h3:R'.jp=R.jp):OnOk R':=⟨⟨by rw [h1,h2];exact h.ok.nf,by rw [h1,h3];exact h.ok.jp⟩,by rw [h2];exact h.nf,by rw [h1];exact h.frs,by rw [h1,h2];exact h.pa,by rw [h1,h2];exact h.pas,by rw [h1,h2];exact h.a0,by rw [h1,h2];exact h.a1⟩
theorem jyl {p:GProg} (h:SOk p) (R:RS) (hd:Doing p R) (hk:(jak p (atV p R.st)).kind=12) :
  ACalls Tryz.prog 118 [.agg (jam p),.pt 0 0 0 0,rI (atV p R.st)] (R.e 39 [] [] []) (fun r l=>r=rI (R.put p (atV p R.st)).2∧l=(R.put p (atV p R.st)).1.e 39 [] [] []):=by
 have hok:=hd.inv.ok
 have hnf:=hok.nf
 have h1:=hd.one
 have hfr:=hd.inv.frs
 have hcl:=jaO R.heap
 have hcc:=hd.cells
 have hst:=hd.stAt h
 obtain ⟨s0,s1,s2,s3,s4,s5⟩:=hd.stmt h
 have hsl:=hst.sl
 have hkk:R.nf - 1 < R.frs.length:=by omega
 generalize ha:atV p R.st=a at *
 obtain ⟨x,y,hla,hx,hy⟩:=(h.ok.tree.shape a.toNat s1).1.two (.inr hk)
 have hkx:=(h.ok.tree.shape a.toNat s1).2.1 x (by rw [hla];simp)
 have hky:=(h.ok.tree.shape a.toNat s1).2.1 y (by rw [hla];simp)
 have hx0:nth (nth p.tree.nodes a.toNat).l 0=x:=by rw [hla];rfl
 have hy0:nth (nth p.tree.nodes a.toNat).l 1=y:=by rw [hla];rfl
 have hll:(nth p.tree.nodes a.toNat).l.length=2:=by rw [hla];rfl
 have hvx:=jc9 h R hok h1 (by omega) (by omega) x hkx.1 (by omega) hx
 have hvy:=jc9 h R hok h1 (by omega) (by omega) y hky.1 (by omega) hy
 have hget:=jpY R.topF.slots (nth p.slots a.toNat) 4
 have hl7:=ju2 R (jgh R.topF.slots (nth p.slots a.toNat) 4) (by omega)
 have hdef:R.put p a=(let x:=R.val p x;let y:=R.val p y;let v:=jgh R.topF.slots (nth p.slots a.toNat) 4;if x.2≠0 then (R,x.2) else if y.2≠0 then (R,y.2) else if x.1.n < 0∨((jb2 R.heap v).length:Int)≤x.1.n then (R,2)
   else ((R.lset (v.n - 1).toNat ((nth R.heap (v.n - 1).toNat).set x.1.n.toNat y.1.n)).on,0)):=by
  unfold RS.put;rw [show nth (jak p a).l 0=x from hx0,show nth (jak p a).l 1=y from hy0];rfl
 rw [hdef]
 generalize R.val p x=X at hvx ⊢
 generalize R.val p y=Y at hvy ⊢
 generalize hV:jgh R.topF.slots (nth p.slots a.toNat) 4=V at *
 simp only
 have hL:(R.listA V=.raw (.slice none 0 0)∧jb2 R.heap V=[])∨(1≤V.n∧V.n≤R.heap.length∧R.listA V=.rs (fid 2 (V.n - 1).toNat) (nth R.heap (V.n - 1).toNat).length 1 (nth R.heap (V.n - 1).toNat).length∧jb2 R.heap V=nth R.heap (V.n - 1).toNat):=by
  unfold RS.listA jb2
  by_cases c:V.ty≠4∨V.n < 1∨(R.heap.length:Int) < V.n
  ·rw [if_pos c,if_pos c];exact .inl ⟨rfl,rfl⟩
  ·rw [if_neg c,if_neg c];exact .inr ⟨by omega,by omega,rfl,rfl⟩
 have hsm:((jb2 R.heap V).length:Int)≤40:=by
  rcases hL with ⟨_,e⟩ | ⟨c1,c2,_,e⟩
  ·rw [e];simp
  ·rw [e];have:=jdM R.heap (V.n - 1).toNat (by omega);omega
 have fin:∀ (R':RS) (tr:Int),R'=R→(X.2≠0∧tr=X.2)∨(X.2=0∧Y.2≠0∧tr=Y.2)∨(X.2=0∧Y.2=0∧(X.1.n < 0∨((jb2 R.heap V).length:Int)≤X.1.n)∧tr=2)→
   ACalls Tryz.prog 118 [.agg (jam p),.pt 0 0 0 0,rI a] (R.e 39 [] [] []) (fun r l=>r=rI tr∧l=R'.e 39 [] [] []):=fun R' tr hR hh=>by
  rcases hL with ⟨e1,e2⟩ | ⟨cv1,cv2,e1,e2⟩
  all_goals
   rw [e1] at hl7
   rw [e2] at hh hsm
   refine jaw Tryz.func118 Tryz.ntmps118 ?_
   generalize hB:ids (R.e 39 [] [] [])=B
   generalize hE:R'.e 39 [] [] []=E
   (refine S ?_;try exact True.intro)
   rcases hh with ⟨c0,rfl⟩ | ⟨c0,c1,rfl⟩ | ⟨c0,c1,c2,rfl⟩
   all_goals
    (have W:=And.intro hx0 (And.intro hy0 (hll));repeat' (first|refine jaa fun K hK=>?_|refine wkA ?_|(with_reducible refine gR 2 ?_);refine dL 2 [] [10] [0,1,2,3,4,5,6,7,8,9,10,11,12] mixed ?_|(with_reducible refine gR 5 ?_);refine dL 5 [] [10] [0,1,2,3,4,5,6,7,8,9,10,11,12] mixed ?_|(with_reducible refine gR 8 ?_);refine dL 8 [] [19] [0,1,2,3,4,5,6,7,8,9,10,11,12,13,14,15,16,17,18,19,20] mixed ?_|(with_reducible refine gR 9 ?_);refine dE 9 [0,1,2,3,4,5,6] mixed ?_|(refine hK _ _ ?_;clear hK K)|(refine jad (fun hc=>?_) (fun hc=>?_)<;>first | contradiction | (exfalso;omega) | skip)|refine bxF 4 ?_|refine alF 5 ?_|refine alF 6 ?_|refine alF 7 ?_|refine alF 8 ?_|(refine cE (R:=R) (R':=R) (pre:=[]) (post:=[]) (pre':=[]) (post':=[]) hvx rfl (Nat.le_refl _) (Nat.le_refl _) rfl rfl jac rfl (by simp only [go_sem]) ?_;(refine S ?_;try exact True.intro))|(refine cE (R:=R) (R':=R) (pre:=[]) (post:=[]) (pre':=[]) (post':=[]) hvy rfl (Nat.le_refl _) (Nat.le_refl _) rfl rfl jac rfl (by simp only [go_sem]) ?_;(refine S ?_;try exact True.intro))|(refine cqL (args':=[rSl R.topF.slots,rI (nth p.slots a.toNat),rI 4]) hget (show VToL _ ⟨B,R.e 39 [] [] _⟩ _ _ from ⟨RS.vtoS hkk (fun _=>rfl) rfl,.same _ rfl,.same _ rfl,trivial⟩) rfl (by simp only [go_sem]) ?_;(refine S ?_;try exact True.intro))|(refine cL (args':=[rSl R.topF.slots,rI (nth p.slots a.toNat),rI 4]) hget (show VToL _ ⟨B,R.e 39 [] [] _⟩ _ _ from ⟨RS.vtoS hkk (fun _=>rfl) rfl,.same _ rfl,.same _ rfl,trivial⟩) rfl (by simp only [go_sem]) ?_;(refine S ?_;try exact True.intro))|(refine cE4 (R:=R) (R':=R) (pre:=[]) (post:=[]) (pre':=[]) (post':=[]) hl7 rfl (Nat.le_refl _) (Nat.le_refl _) rfl rfl jac rfl (by simp only [go_sem]) ?_;(refine S ?_;try exact True.intro))|refine wkB ?_|exact True.intro|(clear hK K)));all_goals (try clear W)
    all_goals
     subst hE
     subst hR
     exact jb8 (R':=R') (pre':=[]) (post':=[]) rfl hB [.tmp 6] jac rfl rfl rfl
 by_cases c0:X.2=0
 rotate_left
 ·rw [if_pos c0]
  exact fin R X.2 rfl (.inl ⟨c0,rfl⟩)
 rw [if_neg (fun h=>h c0)]
 by_cases c1:Y.2=0
 rotate_left
 ·rw [if_pos c1]
  exact fin R Y.2 rfl (.inr (.inl ⟨c0,c1,rfl⟩))
 rw [if_neg (fun h=>h c1)]
 by_cases c2:X.1.n < 0∨((jb2 R.heap V).length:Int)≤X.1.n
 ·rw [if_pos c2]
  exact fin R 2 rfl (.inr (.inr ⟨c0,c1,c2,rfl⟩))
 rw [if_neg c2]
 rcases hL with ⟨e1,e2⟩ | ⟨cv1,cv2,e1,e2⟩
 ·rw [e2] at c2;exfalso;simp at c2;omega
 rw [e1] at hl7
 rw [e2] at c2 hsm
 have hkv:(V.n - 1).toNat < R.heap.length:=by omega
 have hon:=jmG (R.lset (V.n - 1).toNat ((nth R.heap (V.n - 1).toNat).set X.1.n.toNat Y.1.n)) (jdV (hd.onOk h) rfl rfl rfl)
 have hle:(R.lset (V.n - 1).toNat ((nth R.heap (V.n - 1).toNat).set X.1.n.toNat Y.1.n)).heap.length=R.heap.length:=by simp [RS.lset]
 refine jaw Tryz.func118 Tryz.ntmps118 ?_
 generalize hB:ids (R.e 39 [] [] [])=B
 generalize hE:(R.lset (V.n - 1).toNat ((nth R.heap (V.n - 1).toNat).set X.1.n.toNat Y.1.n)).on.e 39 [] [] []=E
 (refine S ?_;try exact True.intro)
 (have W:=And.intro hx0 (And.intro hy0 (hll));repeat' (first|refine jaa fun K hK=>?_|refine wkA ?_|(with_reducible refine gR 2 ?_);refine dL 2 [] [10] [0,1,2,3,4,5,6,7,8,9,10,11,12] mixed ?_|(with_reducible refine gR 5 ?_);refine dL 5 [] [10] [0,1,2,3,4,5,6,7,8,9,10,11,12] mixed ?_|(with_reducible refine gR 8 ?_);refine dL 8 [] [19] [0,1,2,3,4,5,6,7,8,9,10,11,12,13,14,15,16,17,18,19,20] mixed ?_|(with_reducible refine gR 9 ?_);refine dE 9 [0,1,2,3,4,5,6] mixed ?_|(with_reducible refine gR 12 ?_);refine dE 12 [0,1,2,3,4,5,6,7,8,9,10,11,12,13,14] mixed ?_|(refine hK _ _ ?_;clear hK K)|(refine jad (fun hc=>?_) (fun hc=>?_)<;>first | contradiction | (exfalso;omega) | skip)|refine bxF 4 ?_|refine alF 5 ?_|refine alF 6 ?_|refine alF 7 ?_|refine alF 8 ?_|(refine cE (R:=R) (R':=R) (pre:=[]) (post:=[]) (pre':=[]) (post':=[]) hvx rfl (Nat.le_refl _) (Nat.le_refl _) rfl rfl jac rfl (by simp only [go_sem]) ?_;(refine S ?_;try exact True.intro))|(refine cE (R:=R) (R':=R) (pre:=[]) (post:=[]) (pre':=[]) (post':=[]) hvy rfl (Nat.le_refl _) (Nat.le_refl _) rfl rfl jac rfl (by simp only [go_sem]) ?_;(refine S ?_;try exact True.intro))|(refine cqL (args':=[rSl R.topF.slots,rI (nth p.slots a.toNat),rI 4]) hget (show VToL _ ⟨B,R.e 39 [] [] _⟩ _ _ from ⟨RS.vtoS hkk (fun _=>rfl) rfl,.same _ rfl,.same _ rfl,trivial⟩) rfl (by simp only [go_sem]) ?_;(refine S ?_;try exact True.intro))|(refine cL (args':=[rSl R.topF.slots,rI (nth p.slots a.toNat),rI 4]) hget (show VToL _ ⟨B,R.e 39 [] [] _⟩ _ _ from ⟨RS.vtoS hkk (fun _=>rfl) rfl,.same _ rfl,.same _ rfl,trivial⟩) rfl (by simp only [go_sem]) ?_;(refine S ?_;try exact True.intro))|(refine cE4 (R:=R) (R':=R) (pre:=[]) (post:=[]) (pre':=[]) (post':=[]) hl7 rfl (Nat.le_refl _) (Nat.le_refl _) rfl rfl jac rfl (by simp only [go_sem]) ?_;(refine S ?_;try exact True.intro))|(refine cE (R:=R.lset (V.n - 1).toNat ((nth R.heap (V.n - 1).toNat).set X.1.n.toNat Y.1.n)) (R':=(R.lset (V.n - 1).toNat ((nth R.heap (V.n - 1).toNat).set X.1.n.toNat Y.1.n)).on) (pre:=[]) (post:=[]) (pre':=[]) (post':=[]) hon (congrArg (Hp.mk B) (RS.e_lset (R:=R) (k:=(V.n - 1).toNat) (l:=(nth R.heap (V.n - 1).toNat).set X.1.n.toNat Y.1.n) hkv (by simp) rfl fun j=>rfl)) (Nat.le_of_eq RS.upd_len) (Nat.le_refl _) rfl rfl jac rfl (by simp only [go_sem]) ?_;(refine S ?_;try exact True.intro))|refine wkB ?_|exact True.intro|(clear hK K)));all_goals (try clear W)
 subst hE
 exact jb8 (R':=(R.lset (V.n - 1).toNat ((nth R.heap (V.n - 1).toNat).set X.1.n.toNat Y.1.n)).on) (pre':=[]) (post':=[]) rfl hB [.tmp 6] jac rfl rfl rfl
end Go.Proofs.YtfkgcobaheegbaaGreatDoor
