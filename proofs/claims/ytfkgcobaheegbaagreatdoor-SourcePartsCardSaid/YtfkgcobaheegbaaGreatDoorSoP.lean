/- Values: the document's, and the program's. What a program means: a state settles. What expressions tell: of which type it is. What a program means: what a statement keeps. No conditions. -/
import Derived.Test.YtfkgcobaheegbaaGreatDoorGdTm
import Derived.Test.YtfkgcobaheegbaaGreatDoorP2
import Derived.Test.YtfkgcobaheegbaaGreatDoorLxT
import Derived.Test.YtfkgcobaheegbaaGreatDoorSoS
import Derived.Test.YtfkgcobaheegbaaGreatDoorTyF
import Derived.Test.YtfkgcobaheegbaaGreatDoorEvS
set_option linter.all false
namespace Go.Proofs.YtfkgcobaheegbaaGreatDoor
open Go Go.Gd
abbrev rV (v:GValue):AV:=.agg (jag v)
set_option maxHeartbeats 1000000
set_option maxRecDepth 10000
theorem jjm (n:Int):PCall Tryz.prog 162 [rI n] (rV (vI n)):=by
 refine jbA Tryz.func162 Tryz.ntmps162 ?_
 (repeat' (first|refine jaa fun K hK=>?_|refine wkA ?_|(refine hK _ _ ?_;clear hK K)|(refine jad (fun hc=>?_) (fun hc=>?_)<;>first | contradiction | (exfalso;omega) | skip)|refine wkB ?_|exact True.intro|(clear hK K)))
 (refine jaN [.cell 2 59] ?_;try simp only [go_sem])
 rfl
theorem jjQ (b:Bool):PCall Tryz.prog 219 [rB b] (rV (vB b)):=by
 refine jbA Tryz.func219 Tryz.ntmps219 ?_
 (repeat' (first|refine jaa fun K hK=>?_|refine wkA ?_|(refine hK _ _ ?_;clear hK K)|(refine jad (fun hc=>?_) (fun hc=>?_)<;>first | contradiction | (exfalso;omega) | skip)|refine wkB ?_|exact True.intro|(clear hK K)))
 all_goals (refine jaN [.cell 2 59] ?_;try simp only [go_sem])
 all_goals simp_all [vB,jag]
theorem jrc (s:ByteArray):PCall Tryz.prog 220 [rS s] (rV (vT s)):=by
 refine jbA Tryz.func220 Tryz.ntmps220 ?_
 (repeat' (first|refine jaa fun K hK=>?_|refine wkA ?_|(refine hK _ _ ?_;clear hK K)|(refine jad (fun hc=>?_) (fun hc=>?_)<;>first | contradiction | (exfalso;omega) | skip)|refine wkB ?_|exact True.intro|(clear hK K)))
 (refine jaN [.cell 2 59] ?_;try simp only [go_sem])
 rfl
theorem jrq (t:Int):PCall Tryz.prog 104 [rI t] (rV (vZ t)):=by
 refine jbA Tryz.func104 Tryz.ntmps104 ?_
 (repeat' (first|refine jaa fun K hK=>?_|refine wkA ?_|(refine hK _ _ ?_;clear hK K)|(refine jad (fun hc=>?_) (fun hc=>?_)<;>first | contradiction | (exfalso;omega) | skip)|refine wkB ?_|exact True.intro|(clear hK K)))
 (refine jaN [.cell 2 59] ?_;try simp only [go_sem])
 rfl
theorem jye (v:GValue):PCall Tryz.prog 31 [rV v] (rB (jl1 v)):=by
 refine jbA Tryz.func31 Tryz.ntmps31 ?_
 (repeat' (first|refine jaa fun K hK=>?_|refine wkA ?_|(refine hK _ _ ?_;clear hK K)|(refine jad (fun hc=>?_) (fun hc=>?_)<;>first | contradiction | (exfalso;omega) | skip)|refine wkB ?_|exact True.intro|(clear hK K)))
 all_goals (refine jaN [.tmp 2] ?_;try simp only [go_sem])
 all_goals simp_all [jl1]
theorem juT (g:ByteArray) (a b:Int):PCall Tryz.prog 263 [rS g,rI a,rI b] (.tup [rV (jiX g a b).1,rI (jiX g a b).2]):=by
 refine jbA Tryz.func263 Tryz.ntmps263 ?_
 (repeat' (first|refine jaa fun K hK=>?_|refine wkA ?_|(refine hK _ _ ?_;clear hK K)|(refine jad (fun hc=>?_) (fun hc=>?_)<;>first | contradiction | (exfalso;omega) | skip)|refine cp (jjm _) ?_|refine cp (jjQ _) ?_|refine wkB ?_|exact True.intro|(clear hK K)))
 all_goals (refine jaN [.cell 6 59,.tmp 7] ?_;try simp only [go_sem])
 all_goals simp_all [jiX]
 all_goals rfl
theorem jxo (g:ByteArray) (a b:GValue) (ha:a.s.size≤1000000) (hb:b.s.size≤1000000):PCall Tryz.prog 239 [rS g,rV a,rV b] (.tup [rV (jjf g a b).1,rI (jjf g a b).2]):=by
 refine jbA Tryz.func239 Tryz.ntmps239 ?_
 (repeat' (first|refine jaa fun K hK=>?_|refine wkA ?_|(refine hK _ _ ?_;clear hK K)|(refine jad (fun hc=>?_) (fun hc=>?_)<;>first | contradiction | (exfalso;omega) | skip)|refine cp (jjQ _) ?_|refine cp (jrc _) ?_|refine cp (juT _ _ _) ?_|refine wkB ?_|exact True.intro|(clear hK K)))
 all_goals (refine jaN [.cell 6 59,.tmp 7] ?_;try simp only [go_sem])
 all_goals (unfold jjf;(repeat' split)<;>first | rfl | (exfalso;omega) | (exfalso;simp_all;done) | (simp_all [jag,vB];done) | (exfalso;simp_all;omega) | skip)
theorem jvs (g:ByteArray) (a:GValue):PCall Tryz.prog 223 [rS g,rV a] (rV (jem g a)):=by
 refine jbA Tryz.func223 Tryz.ntmps223 ?_
 (repeat' (first|refine jaa fun K hK=>?_|refine wkA ?_|(refine hK _ _ ?_;clear hK K)|(refine jad (fun hc=>?_) (fun hc=>?_)<;>first | contradiction | (exfalso;omega) | skip)|refine cp (jjQ _) ?_|refine cp (jjm _) ?_|refine wkB ?_|exact True.intro|(clear hK K)))
 all_goals (refine jaN [.cell 4 59] ?_;try simp only [go_sem])
 all_goals (unfold jem;(repeat' split)<;>first | rfl | (exfalso;omega) | (exfalso;simp_all;done) | (simp_all [jag,vB];done) | (exfalso;simp_all;omega) | skip)
end Go.Proofs.YtfkgcobaheegbaaGreatDoor
namespace Go.Gd
open Go
theorem jrb {α:Type} [Inhabited α] (l m:List α) (h:l.length≠0):l.take (l.length - 1)++(nth l (l.length - 1)::m)=l++m:=by
 have h1:l.length - 1 < l.length:=by omega
 have e:l.take (l.length - 1)++[nth l (l.length - 1)]=l:=by
  rw [← jgc h1,List.take_of_length_le (by omega)]
 rw [show l.take (l.length - 1)++(nth l (l.length - 1)::m)=(l.take (l.length - 1)++[nth l (l.length - 1)])++m by simp,e]
theorem RS.e_cut {t:TypeId} {pre post:List AV} {R:RS} {tl:List (Nat×Row)} (hk:R.nf - 1 < R.frs.length) (hj:R.jp.length=R.frs.length) (hp:R.topF.path.length≠0) {c0:List AV} {f:Nat→List AV} (hc:c0=pre++R.c++post)
  (hf:∀ j,f j=if j=R.nf - 1 then [.raw (.int .i64 R.topF.fn),.rs (fid 0 (R.nf - 1)) R.topF.slots.length 3 R.topF.slots.length,.rs (fid 1 (R.nf - 1)) (R.topF.path.length+(nth R.jp (R.nf - 1)).length) 2 (R.topF.path.length - 1)] else R.fr j) :
  (0,.var t c0)::(1,.vec 57 3 (tab R.frs.length f))::(2,.vec 22 1 (tab R.heap.length fun k=>[.rs (fid 2 k) (nth R.heap k).length 1 (nth R.heap k).length]))::(3,.vec 9 1 (R.out_.map eS)) ::
   fam 0 R.frs.length R.sl (fam 1 R.frs.length R.pt (fam 2 R.heap.length R.hp tl))=R.cut.e t pre post tl:=by
 have hu:∀ k,nth R.cut.frs k=if k=R.nf - 1 then { R.topF with path:=R.topF.path.take (R.topF.path.length - 1) } else nth R.frs k:=fun k=>Go.Gd.nth_upd _ _ _ _ hk
 have hv:∀ k,nth R.cut.jp k=if k=R.nf - 1 then R.topF.pl::nth R.jp (R.nf - 1) else nth R.jp k:=fun k=>Go.Gd.nth_upd _ _ _ _ (by omega)
 refine RS.e_mk (by rw [hc];simp [RS.c,RS.cut]) (by simp [RS.cut]) (fun j hj'=>?_) rfl (fun _ _=>rfl) rfl rfl rfl rfl (fun j hj'=>?_) (fun j hj'=>?_) (fun _ _=>rfl) rfl
 ·rw [hf]
  simp only [RS.fr,hu,hv]
  split
  ·rename_i e;subst e
   simp only [List.length_take,List.length_cons]
   rw [show min (R.topF.path.length - 1) R.topF.path.length=R.topF.path.length - 1 by omega,show R.topF.path.length - 1+((nth R.jp (R.nf - 1)).length+1)=R.topF.path.length+(nth R.jp (R.nf - 1)).length by omega]
  ·rfl
 ·simp only [RS.sl,hu]
  split
  ·rename_i e;subst e;rfl
  ·rfl
 ·simp only [RS.pt,hu,hv]
  split
  ·rename_i e;subst e
   show _=Row.vec _ _ ((R.topF.path.take (R.topF.path.length - 1)++(nth R.topF.path (R.topF.path.length - 1)::_)).map _)
   rw [jrb _ _ hp];rfl
  ·rfl
theorem jsu {n:Nat} {S:Type} {W:List (Nat×Nat)} {ok:S→Prop} {J:S→List (Nat×AV)} {G:S→Hp} {μ:S→Nat} {F₀ F:List AV} {H:Hp} {t t':TypeId} {pre post pre' post':List AV} {R0 R':RS} {B:List Nat} (s:S) (tl:List (Nat×Row)) (j:Nat) (x:Row) (h1:ok s) (h2:μ s < n)
  (hH:H=⟨B,R'.e t pre post (tl++[(j,x)])⟩) (hB:ids (R0.e t' pre' post' [])=B) (hG:G s=⟨B,R'.e t pre post tl⟩) (hj:4≤j∧j < 1000) (htl:jas tl j=none) (hp:jaB noQ pre=true) (hq:jaB noQ post=true) (hr:∀ i r,jas tl i=some r→jaB noQ r.cells=true) (hn:(ids tl).Nodup)
  (h3:VToL (fun i=>[j].contains i) H F (jjB (J s) (jmC W F₀)):=by exact vtl):Next n W ok J G μ F₀ F H:=by
 have hD:∀ i,i≠j→(fun i=>[j].contains i) i=false:=fun i hi=>by simp [hi]
 have hno:∀ {R:RS} {t:TypeId} {pre post:List AV} i,i∈ids (R.e t pre post [])→i≠j:=fun i hi e=>by
  subst e
  exact (jbY _ _).1 hi (RS.no _ hj.1 hj.2)
 subst hH
 refine jll (fun i=>[j].contains i) s h1 h2 ?_ ?_ ?_ h3
 ·show B.all _=true
  rw [List.all_eq_true]
  intro i hi
  rw [← hB] at hi
  unfold jcB
  rw [hD i (hno i hi)];rfl
 ·show jek _ (R'.e t pre post _)
  rw [RS.e_app]
  refine jeW _ _ _ (jd0 _ _ RS.nodup fun i r hi=>jbg (fun k hk=>?_) _ (RS.closed hp hq i r hi)) (jeW _ _ _ (jd0 _ _ hn fun i r hi=>jbg (fun _ h=>by cases h) _ (hr i r hi)) (jhI _ _ fun i hi=>?_))
  ·unfold jcB
   rw [hD k (hno k (List.contains_iff_mem.1 hk))];rfl
  ·simp [ids] at hi
   subst hi;simp
 ·rw [hG]
  show Hp.mk B (ja9 _ (R'.e t pre post _))=_
  rw [RS.e_app,jdQ,jdQ,jcG _ _ (fun i hi=>hD i (hno i hi)),jcG _ tl (fun i hi=>hD i fun e=>by subst e;exact (jbY _ _).1 hi htl),jfP _ [(j,x)] (fun i hi=>by simp [ids] at hi;subst hi;simp),List.append_nil,← RS.e_app]
end Go.Gd
namespace Go.Proofs.YtfkgcobaheegbaaGreatDoor
open Go Go.Gd
theorem jqj {i:Nat} {r:Row} (hi:4≤i∧i < 1000):low [(i,r)]:=fun k x hk=>by
 have hk:k∈ids [(i,r)]:=(jbY _ _).2 (by rw [hk];simp)
 simp [ids] at hk
 omega
theorem jeD (R:RS) (p:GProg) (v:GValue):(R.tells p v).frs.length=R.frs.length∧(R.tells p v).heap=R.heap:=by
 unfold RS.tells
 split
 ·exact ⟨rfl,rfl⟩
 ·split
  ·exact ⟨RS.upd_len.symm.trans RS.upd_len.symm,rfl⟩
  ·exact ⟨RS.upd_len.symm,rfl⟩
theorem InvR.at_ {p:GProg} (h:SOk p) {R:RS} (hI:InvR p R) (h2:2≤R.nf):StAt p R.pop.st:=by
 have hnf:=hI.ok.nf
 have hf:=hI.frs
 have hpop:R.pop.Ok:=⟨by show R.nf - 1≤R.frs.length;omega,hI.ok.jp⟩
 have ht:=RS.top hpop (by show 1≤R.nf - 1;omega)
 have hl:R.pop.st.frames.length=R.nf - 1:=by show (R.frs.take (R.nf - 1)).length=_;simp;omega
 exact j1T h (by omega) (by omega) (by rw [ht];exact hI.fr (R.nf - 1 - 1) (by omega)) (by rw [ht];exact hI.busy (R.nf - 1 - 1) (by omega))
set_option maxHeartbeats 2000000 in
set_option maxRecDepth 10000 in
theorem jlI {p:GProg} (h:SOk p) (R:RS) (hI:InvR p R) :
  ACalls Tryz.prog 60 [.agg (jam p),.pt 0 0 0 0] (R.e 39 [] [] []) (fun r l=>r=.tup []∧l=(R.settle p).e 39 [] [] []):=by
 refine jaw Tryz.func60 Tryz.ntmps60 ?_
 generalize hB:ids (R.e 39 [] [] [])=B
 generalize hE:(R.settle p).e 39 [] [] []=E
 (refine S ?_;try exact True.intro)
 (repeat' (first|refine jaa fun K hK=>?_|refine wkA ?_|(refine hK _ _ ?_;clear hK K)|(refine jad (fun hc=>?_) (fun hc=>?_)<;>first | contradiction | (exfalso;omega) | skip)|refine bxF 4 ?_|refine wkB ?_|exact True.intro|(clear hK K)))
 refine jah (S:=RS) [(4,82)] (fun T=>InvR p T∧jbf p (T.left+1) T=R.settle p) (fun _=>[]) (fun T=>⟨B,T.e 39 [] [] [(4,.var 29 (jam p))]⟩) (fun T=>T.left) R ⟨hI,rfl⟩ (jaE rfl lle) ?_
 rintro T ⟨hT,hS⟩ Kr hKr
 have hnf:=hT.ok.nf
 have hfr:=hT.frs
 have hjp:=hT.ok.jp
 unfold jbf at hS
 by_cases e0:T.status=2
 ·rw [if_pos e0] at hS
  (refine S ?_;try exact True.intro)
  (repeat' (first|refine jaa fun K hK=>?_|refine wkA ?_|(refine hK _ _ ?_;clear hK K)|(refine jad (fun hc=>?_) (fun hc=>?_)<;>first | contradiction | (exfalso;omega) | skip)|refine wkB ?_|exact True.intro|(clear hK K)))
  subst hE
  rw [← hS]
  exact jb8 (R':=T) (tl:=[(4,.var 29 (jam p))]) rfl hB [] (jqj (by omega)) rfl rfl rfl
 rw [if_neg e0] at hS
 have h1:=hT.go e0
 have hk:T.nf - 1 < T.frs.length:=by omega
 have htop:=hT.fr (T.nf - 1) (by omega)
 have hlen:=htop.len h
 have hf0:=htop.f0
 have hf1:=htop.f1
 have htf:T.topF=nth T.frs (T.nf - 1):=rfl
 by_cases e1:T.topF.path.length=0
 ·rw [if_pos e1] at hS
  rw [htf] at e1 hS
  have hte:=jok p (vZ (nth p.tree.fns (nth T.frs (T.nf - 1)).fn.toNat).ret) T hT.ok h1 (by omega) (hT.at_ h)
  obtain ⟨g1,g2,_⟩:=hT.tells h1 (vZ (nth p.tree.fns (nth T.frs (T.nf - 1)).fn.toNat).ret)
  have hle:=jeD T p (vZ (nth p.tree.fns (nth T.frs (T.nf - 1)).fn.toNat).ret)
  have hle1:T.frs.length≤(T.tells p (vZ (nth p.tree.fns (nth T.frs (T.nf - 1)).fn.toNat).ret)).frs.length:=by rw [hle.1];exact Nat.le_refl _
  have hle2:T.heap.length≤(T.tells p (vZ (nth p.tree.fns (nth T.frs (T.nf - 1)).fn.toNat).ret)).heap.length:=by rw [hle.2];exact Nat.le_refl _
  generalize T.tells p (vZ (nth p.tree.fns (nth T.frs (T.nf - 1)).fn.toNat).ret)=T' at *
  have hlow:=jqj (i:=4) (r:=.var 29 (jam p)) (by omega)
  (refine S ?_;try exact True.intro)
  (repeat' (first|refine jaa fun K hK=>?_|refine wkA ?_|(with_reducible refine gR 2 ?_);refine dE 2 [0,1,2,3,4,5,6,7,8,9,10,11] mixed ?_|(with_reducible refine gR 4 ?_);refine dC 4 ([],[40],[]) [] [0,1,2,3,4,5,6,7,8,9,10,11,12,13] mixed ?_|(refine hK _ _ ?_;clear hK K)|(refine jad (fun hc=>?_) (fun hc=>?_)<;>first | contradiction | (exfalso;omega) | skip)|refine cq (jrq _) ?_|(refine cE (R:=T) (R':=T') (pre:=[]) (post:=[]) (pre':=[]) (post':=[]) hte rfl hle1 hle2 rfl rfl hlow rfl (by simp only [go_sem]) ?_;(refine S ?_;try exact True.intro))|(refine hKr _ _ (jau T' ⟨g1,?_⟩ g2 jgX lle))|refine wkB ?_|exact True.intro|(clear hK K)))
  exact (jcJ _ _ _ g1 (by omega) (by omega)).trans hS
 ·rw [if_neg e1] at hS
  have hpl:=htop.pl _ (jlw (f:=nth T.frs (T.nf - 1)) fun e=>e1 (by rw [htf,e];rfl))
  have hin:=hpl.in_ h hf0 hf1
  have hb0:=hpl.b0
  have ha0:=hpl.a0
  rw [htf] at e1 hS
  have e1':1≤(nth T.frs (T.nf - 1)).path.length:=by omega
  have hlow:=fun (r s:Row)=>jgy (i:=4) (j:=5) (r:=r) (s:=s) (by omega) (by omega)
  by_cases e2:(nth T.frs (T.nf - 1)).pl.at_ < (jb3 p (nth T.frs (T.nf - 1)).pl.block).length
  ·rw [if_pos e2] at hS
   unfold jb3 GFrame.pl at e2
   unfold GFrame.pl at hin hb0 ha0
   (refine S ?_;try exact True.intro)
   (repeat' (first|refine jaa fun K hK=>?_|refine wkA ?_|(with_reducible refine gR 2 ?_);refine dE 2 [0,1,2,3,4,5,6,7,8,9,10,11] mixed ?_|(with_reducible refine gR 5 ?_);refine dE 5 [0,1,2,3,4,5,6,7,8,9,10,11,12,13] mixed ?_|(with_reducible refine gR 6 ?_);refine dE 6 [0,1,2,3,4,5,6,7,8,9,10,11] mixed ?_|(refine hK _ _ ?_;clear hK K)|(refine jad (fun hc=>?_) (fun hc=>?_)<;>first | contradiction | (exfalso;omega) | skip)|refine alF 5 ?_|refine wkB ?_|exact True.intro|(clear hK K)))
   subst hE
   rw [← hS]
   exact jb8 (R':=T) (tl:=[(4,.var 29 (jam p)),(5,.var 89 (jay (nth (nth T.frs (T.nf - 1)).path ((nth T.frs (T.nf - 1)).path.length - 1))))]) rfl hB [] (hlow _ _) rfl rfl rfl
  ·rw [if_neg e2] at hS
   obtain ⟨g1,g2⟩:=hT.cut h1 (by rw [htf];exact e1)
   unfold jb3 GFrame.pl at e2
   unfold GFrame.pl at hin hb0 ha0
   (refine S ?_;try exact True.intro)
   (repeat' (first|refine jaa fun K hK=>?_|refine wkA ?_|(with_reducible refine gR 2 ?_);refine dE 2 [0,1,2,3,4,5,6,7,8,9,10,11] mixed ?_|(with_reducible refine gR 5 ?_);refine dE 5 [0,1,2,3,4,5,6,7,8,9,10,11,12,13] mixed ?_|(with_reducible refine gR 6 ?_);refine dE 6 [0,1,2,3,4,5,6,7,8,9,10,11] mixed ?_|(with_reducible refine gR 7 ?_);refine dE 7 [0,1,2,3,4,5,6,7,8,9,10,11,12,13,14] mixed ?_|(refine hK _ _ ?_;clear hK K)|(refine jad (fun hc=>?_) (fun hc=>?_)<;>first | contradiction | (exfalso;omega) | skip)|refine alF 5 ?_|refine wkB ?_|exact True.intro|(clear hK K)))
   all_goals
    refine hKr _ _ (jsu (R0:=R) (R':=T.cut) T.cut [(4,.var 29 (jam p))] 5 (.var 89 (jay (nth (nth T.frs (T.nf - 1)).path ((nth T.frs (T.nf - 1)).path.length - 1)))) ⟨g1,?_⟩ (by show T.cut.left < T.left;omega)
     (congrArg (Hp.mk B) (RS.e_cut (tl:=[(4,.var 29 (jam p)),(5,.var 89 (jay (nth (nth T.frs (T.nf - 1)).path ((nth T.frs (T.nf - 1)).path.length - 1))))]) hk hjp e1 rfl fun j=>rfl)) hB rfl (by omega) rfl rfl rfl (fun i r hi=>?_) (by simp [ids]))
    ·exact (jcJ _ _ _ g1 (by omega) (by omega)).trans hS
    ·simp only [jas] at hi
     split at hi
     ·cases hi;simp [Row.cells,go_sem]
     ·cases hi
theorem jnM {t:Int} (h:1≤t∧t≤4):jl1 (vZ t)=true:=by
 have:t=1∨t=2∨t=3∨t=4:=by omega
 rcases this with rfl | rfl | rfl | rfl<;>decide
theorem jxR (slots:List GValue) (k:Int) {t:Int} (h:1≤t∧t≤4):(jgh slots k t).ty=t∧jl1 (jgh slots k t)=true:=by
 unfold jgh
 split
 ·exact ⟨rfl,jnM h⟩
 split
 ·rename_i hh;exact ⟨hh.2,hh.1⟩
 ·exact ⟨rfl,jnM h⟩
theorem jsr {v:GValue} (hm:jl1 v=true):v.s.size≤40:=by
 unfold jl1 at hm
 split at hm
 ·have:v.s=sE:=by simpa using hm
  rw [this];decide
 split at hm
 ·simp only [Bool.and_eq_true,decide_eq_true_eq] at hm
  rw [hm.1];decide
 split at hm
 ·simp only [Bool.and_eq_true,decide_eq_true_eq] at hm
  omega
 split at hm
 ·simp only [Bool.and_eq_true,decide_eq_true_eq] at hm
  rw [hm.1];decide
 ·cases hm
def Told (r:GValue×Int) (T:Int):Prop:=(r.2=0∧r.1.ty=T∧jl1 r.1=true)∨((r.2=1∨r.2=2∨r.2=6)∧r.1=v0)
theorem Told.size {r:GValue×Int} {T:Int} (h:Told r T):r.1.s.size≤40:=by
 rcases h with ⟨_,_,h⟩ | ⟨_,h⟩
 ·exact jsr h
 ·rw [h];decide
theorem jiI (n:Int):Told (vI n,0) 1:=.inl ⟨rfl,rfl,rfl⟩
theorem jre (b:Bool):Told (vB b,0) 2:=.inl ⟨rfl,rfl,by cases b<;>decide⟩
theorem jtW {s:ByteArray} (h:s.size≤40):Told (vT s,0) 3:=.inl ⟨rfl,rfl,by
 show jl1 ⟨3,0,s⟩=true
 unfold jl1
 simp only
 rw [if_neg (by decide),if_neg (by decide),if_pos trivial]
 simp;omega⟩
theorem jrf {t T:Int} (h:t=1∨t=2∨t=6):Told (v0,t) T:=.inr ⟨h,rfl⟩
theorem jdk {c:Prop} [Decidable c] {x y:GValue×Int} {T:Int} (h:c→Told x T) (k:¬ c→Told y T):Told (if c then x else y) T:=by
 split
 ·exact h (by assumption)
 ·exact k (by assumption)
theorem js6 {s:ByteArray} (hs:s∈jeU) {a b:GValue} (h:jgT s a.ty b.ty≠0):Told (jjf s a b) (jgT s a.ty b.ty):=by
 have he:a.ty=b.ty:=by
  unfold jgT at h
  split at h
  ·exact (h rfl).elim
  ·omega
 have h1:1≤a.ty∧a.ty≤4:=by
  unfold jgT at h
  rw [if_neg (by omega)] at h
  split at h
  ·split at h<;>first | omega | exact (h rfl).elim
  split at h
  ·split at h<;>first | omega | exact (h rfl).elim
  split at h
  ·split at h<;>first | omega | exact (h rfl).elim
  split at h
  ·split at h<;>first | omega | exact (h rfl).elim
  ·split at h<;>first | omega | exact (h rfl).elim
 unfold jjf
 rw [if_neg (by omega)]
 rcases (by omega:a.ty=1∨a.ty=2∨a.ty=3∨a.ty=4) with ta | ta | ta | ta<;>rw [← he,ta] at h ⊢<;>unfold jgT at h ⊢<;>simp only [jeU,List.mem_cons,List.not_mem_nil,or_false] at hs<;>rcases hs with rfl | rfl | rfl | rfl | rfl | rfl | rfl | rfl | rfl | rfl | rfl
 all_goals first | (exfalso;revert h;decide) | (simp (decide:=true) only [if_true,if_false,jiX])
 all_goals first | exact jiI _ | exact jre _ | exact jdk (fun _=>jrf (by omega)) (fun _=>jiI _) | exact jdk (fun _=>jrf (by omega)) (fun _=>jtW (by rw [ByteArray.size_append];omega))
theorem jje {s:ByteArray} {a b:Int} (hs:s=(⟨#[124,124]⟩:ByteArray)∨s=(⟨#[38,38]⟩:ByteArray)) (h:jgT s a b≠0):jgT s a b=2∧a=2∧b=2:=by
 unfold jgT at h ⊢
 by_cases e:a=b
 ·rw [if_neg (fun h=>h e),if_pos hs] at h ⊢
  by_cases e2:a=2
  ·rw [if_pos e2];omega
  ·rw [if_neg e2] at h;exact (h rfl).elim
 ·rw [if_pos e] at h;exact (h rfl).elim
theorem jd1 {r:GValue×Int} {T U:Int} (h:Told r T) (hr:r.2≠0):Told (v0,r.2) U:=by
 rcases h with ⟨h,_⟩ | ⟨h,_⟩
 ·exact (hr h).elim
 ·exact .inr ⟨h,rfl⟩
theorem jgN {r:GValue×Int} {T:Int} (h:Told r T) (hr:r.2=0):r.1.ty=T∧jl1 r.1=true:=by
 rcases h with ⟨_,h⟩ | ⟨h,_⟩
 ·exact h
 ·omega
theorem jpe {v:GValue} (h:v.ty=1):Told (jem (⟨#[45]⟩:ByteArray) v,0) 1:=by
 unfold jem
 rw [if_pos ⟨rfl,h⟩]
 exact jiI _
theorem jpf {v:GValue} (h:v.ty=2):Told (jem (⟨#[33]⟩:ByteArray) v,0) 2:=by
 unfold jem
 rw [if_neg (by rintro ⟨h,_⟩;revert h;decide),if_pos ⟨rfl,h⟩]
 exact jre _
theorem jeo {p:GProg} (h:POk p) (slots:List GValue) (heap:List (List Int)):∀ (n:Nat) (a:Int),0≤a→a < p.tree.nodes.length→a.toNat < n→isE (jan p.tree.nodes a)→Told (jaY p slots heap n a) (nth p.types a.toNat)
 | 0,a,_,_,hn,_=>by omega
 | n+1,a,h0,h1,hn,hk=>by
  have ih:=jeo h slots heap n
  have sh:=(h.tree.shape a.toNat (by omega))
  have ty:=h.ty a.toNat (by omega) (by omega)
  have kid:∀ i,i < (nth p.tree.nodes a.toNat).l.length→isE (jan p.tree.nodes (nth (nth p.tree.nodes a.toNat).l i))→Told (jaY p slots heap n (nth (nth p.tree.nodes a.toNat).l i)) (nth p.types (nth (nth p.tree.nodes a.toNat).l i).toNat):=fun i hi he=>by
   have:=sh.2.1 _ (jaP hi)
   exact ih _ (by omega) (by omega) (by omega) he
  have hkr:(nth p.tree.nodes a.toNat).kind=1∨(nth p.tree.nodes a.toNat).kind=2∨(nth p.tree.nodes a.toNat).kind=3∨(nth p.tree.nodes a.toNat).kind=4∨(nth p.tree.nodes a.toNat).kind=5∨(nth p.tree.nodes a.toNat).kind=6∨(nth p.tree.nodes a.toNat).kind=7∨(nth p.tree.nodes a.toNat).kind=8∨(nth p.tree.nodes a.toNat).kind=9:=by
   have:isE (nth p.tree.nodes a.toNat).kind:=hk
   unfold isE at this
   omega
  unfold jaY
  simp only
  rcases hkr with k | k | k | k | k | k | k | k | k
  ·rw [if_pos k,ty.int k];exact jiI _
  ·rw [if_neg (by omega),if_pos k,ty.bool k];exact jre _
  ·rw [if_neg (by omega),if_neg (by omega),if_pos k,ty.text k]
   exact jtW (by have:=sh.1.text k;omega)
  ·rw [if_neg (by omega),if_neg (by omega),if_neg (by omega),if_pos k]
   have:=jxR slots (nth p.slots a.toNat) (ty.var k)
   exact .inl ⟨rfl,this⟩
  ·obtain ⟨x,hl,hx⟩:=sh.1.one (by omega)
   have hx':nth (nth p.tree.nodes a.toNat).l 0=x:=by rw [hl];rfl
   have kx:=kid 0 (by rw [hl];simp) (by rw [hx'];exact hx)
   have t5:=ty.index k
   rw [if_neg (by omega),if_neg (by omega),if_neg (by omega),if_neg (by omega)]
   refine jdk (fun hh=>jd1 kx hh) (fun hh=>?_)
   rw [if_pos k,t5.1]
   exact jdk (fun _=>jrf (by omega)) (fun _=>jiI _)
  ·obtain ⟨x,hl,hx⟩:=sh.1.one (by omega)
   have hx':nth (nth p.tree.nodes a.toNat).l 0=x:=by rw [hl];rfl
   have kx:=kid 0 (by rw [hl];simp) (by rw [hx'];exact hx)
   have t5:=ty.len k
   rw [if_neg (by omega),if_neg (by omega),if_neg (by omega),if_neg (by omega)]
   refine jdk (fun hh=>jd1 kx hh) (fun hh=>?_)
   rw [if_neg (by omega),if_neg (by omega),if_pos k,t5.1]
   exact jdk (fun _=>jiI _) (fun _=>jiI _)
  ·obtain ⟨x,hl,hx⟩:=sh.1.one (by omega)
   have hx':nth (nth p.tree.nodes a.toNat).l 0=x:=by rw [hl];rfl
   have kx:=kid 0 (by rw [hl];simp) (by rw [hx'];exact hx)
   have t5:=ty.neg k
   rw [if_neg (by omega),if_neg (by omega),if_neg (by omega),if_neg (by omega)]
   refine jdk (fun hh=>jd1 kx hh) (fun hh=>?_)
   rw [if_neg (by omega),if_neg (by omega),if_neg (by omega),if_pos k,t5.1]
   exact jpe ((jgN kx (by omega)).1.trans t5.2)
  ·obtain ⟨x,hl,hx⟩:=sh.1.one (by omega)
   have hx':nth (nth p.tree.nodes a.toNat).l 0=x:=by rw [hl];rfl
   have kx:=kid 0 (by rw [hl];simp) (by rw [hx'];exact hx)
   have t5:=ty.not k
   rw [if_neg (by omega),if_neg (by omega),if_neg (by omega),if_neg (by omega)]
   refine jdk (fun hh=>jd1 kx hh) (fun hh=>?_)
   rw [if_neg (by omega),if_neg (by omega),if_neg (by omega),if_neg (by omega),t5.1]
   exact jpf ((jgN kx (by omega)).1.trans t5.2)
  ·obtain ⟨x,y,hl,hx,hy⟩:=sh.1.two (by omega)
   have hx':nth (nth p.tree.nodes a.toNat).l 0=x:=by rw [hl];rfl
   have hy':nth (nth p.tree.nodes a.toNat).l 1=y:=by rw [hl];rfl
   have kx:=kid 0 (by rw [hl];simp) (by rw [hx'];exact hx)
   have ky:=kid 1 (by rw [hl];simp) (by rw [hy'];exact hy)
   obtain ⟨t5,t6⟩:=ty.bin k
   rw [if_neg (by omega),if_neg (by omega),if_neg (by omega),if_neg (by omega)]
   refine jdk (fun hh=>jd1 kx hh) (fun hh=>?_)
   have ox:=jgN kx (by omega)
   rw [if_neg (by omega),if_pos k]
   refine jdk (fun he=>?_) (fun _=>?_)
   ·refine .inl ⟨rfl,?_,ox.2⟩
    show (jaY p slots heap n _).1.ty=_
    rw [ox.1]
    rw [t5] at t6 ⊢
    have hs:(nth p.tree.nodes a.toNat).name=(⟨#[124,124]⟩:ByteArray)∨(nth p.tree.nodes a.toNat).name=(⟨#[38,38]⟩:ByteArray):=by rcases he with he | he;exact .inl he.1;exact .inr he.1
    obtain ⟨g1,g2,g3⟩:=jje hs t6
    rw [g1,g2]
   refine jdk (fun hh2=>jd1 ky hh2) (fun hh2=>?_)
   have oy:=jgN ky (by omega)
   rw [t5] at t6 ⊢
   rw [← ox.1,← oy.1] at t6 ⊢
   exact js6 (sh.1.sign k) t6
end Go.Proofs.YtfkgcobaheegbaaGreatDoor
namespace Go.Gd
open Go
theorem RS.topF_upd {R:RS} (h:R.Ok) (h1:1≤R.nf) (f:GFrame):(R.upd (R.nf - 1) f).topF=f:=by
 show nth (R.upd (R.nf - 1) f).frs (R.nf - 1)=f
 rw [RS.nth_upd (by have:=h.nf;omega),if_pos rfl]
structure Kept (R R':RS):Prop where
 heap:R'.heap=R.heap
 in_:R'.in_=R.in_
 out_:R'.out_=R.out_
 trap:R'.trap=R.trap
 time:R'.time=R.time
theorem Kept.refl (R:RS):Kept R R:=⟨rfl,rfl,rfl,rfl,rfl⟩
theorem Kept.trans {a b c:RS} (h:Kept a b) (k:Kept b c):Kept a c:=⟨k.heap.trans h.heap,k.in_.trans h.in_,k.out_.trans h.out_,k.trap.trans h.trap,k.time.trans h.time⟩
theorem jeZ (R:RS) (p:GProg) (v:GValue):Kept R (R.tells p v):=by
 unfold RS.tells
 split
 ·exact ⟨rfl,rfl,rfl,rfl,rfl⟩
 ·split<;>exact ⟨rfl,rfl,rfl,rfl,rfl⟩
theorem jbJ (p:GProg):∀ (n:Nat) (R:RS),Kept R (jbf p n R)
 | 0,R=>Kept.refl R
 | n+1,R=>by
  unfold jbf
  split
  ·exact Kept.refl R
  split
  ·exact (jeZ R p _).trans (jbJ p n _)
  split
  ·exact Kept.refl R
  ·exact Kept.trans (b:=R.cut) ⟨rfl,rfl,rfl,rfl,rfl⟩ (jbJ p n _)
theorem RS.of_ok (s:GState):(RS.of s).Ok:=⟨Nat.le_refl _,by show (s.frames.map _).length=_;simp [RS.of]⟩
theorem RS.of_st (s:GState):(RS.of s).st=s:=by
 show GState.mk (s.frames.take s.frames.length) s.heap s.in_ s.out_ s.status s.trap s.time=s
 rw [List.take_length]
end Go.Gd
namespace Go.Proofs.YtfkgcobaheegbaaGreatDoor
open Go Go.Gd
theorem InvR.upd {p:GProg} {R:RS} (h:InvR p R) (h1:1≤R.nf) {f:GFrame} (hf:FrOk p f):InvR p (R.upd (R.nf - 1) f):=by
 have hnf:=h.ok.nf
 have hu:=fun k=>RS.nth_upd (R:=R) (k:=R.nf - 1) (by omega) f k
 have hl:(R.upd (R.nf - 1) f).frs.length=R.frs.length:=RS.upd_len.symm
 refine ⟨⟨by rw [hl];exact hnf,by rw [hl];exact h.ok.jp⟩,by rw [hl];exact h.frs,fun k hk=>?_,fun k hk=>?_,h.go⟩
 ·rw [hu];split
  ·exact hf
  ·exact h.fr k hk
 ·have hk:k+1 < R.nf:=hk
  rw [hu,if_neg (by omega)];exact h.busy k hk
theorem InvR.on {p:GProg} {R:RS} (h:InvR p R) (h1:1≤R.nf) (hb:jrt p R.topF):InvR p R.on:=h.upd h1 (jnT (h.fr (R.nf - 1) (by omega)) hb)
theorem jsw {α:Type} [Inhabited α] (l:List α) (x:α) (k:Nat) (h:k≤l.length):nth (l++[x]) k=if k=l.length then x else nth l k:=by
 by_cases e:k=l.length
 ·subst e;rw [if_pos rfl,jcL]
 ·rw [if_neg e,jbb (by omega)]
theorem InvR.push {p:GProg} {R:RS} (h:InvR p R) (hfull:R.nf=R.frs.length) (h8:R.nf < 8) (hb:1≤R.nf→jrt p R.topF) {f:GFrame} (hf:FrOk p f):InvR p (R.push f):=by
 have hu:∀ k,k≤R.nf→nth (R.push f).frs k=if k=R.nf then f else nth R.frs k:=fun k hk=>by
  show nth (R.frs++[f]) k=_
  rw [jsw _ _ _ (by omega),hfull]
 have hjp:=h.ok.jp
 refine ⟨⟨by show R.nf+1≤(R.frs++[f]).length;simp;omega,by show (R.jp++[[]]).length=(R.frs++[f]).length;simp;omega⟩,by show (R.frs++[f]).length≤8;simp;omega,fun k hk=>?_,fun k hk=>?_,fun _=>by show 1≤R.nf+1;omega⟩
 ·have hk:k < R.nf+1:=hk
  rw [hu k (by omega)]
  split
  ·exact hf
  ·exact h.fr k (by omega)
 ·have hk:k+1 < R.nf+1:=hk
  rw [hu k (by omega),if_neg (by omega)]
  by_cases e:k+1=R.nf
  ·have:=hb (by omega)
   unfold RS.topF at this
   rwa [show R.nf - 1=k by omega] at this
  ·exact h.busy k (by omega)
theorem jkW {p:GProg} {f:GFrame} (h:FrOk p f) {b:Int} (hp:PlOk p f.fn ⟨b,0⟩) (hd:∀ x∈f.path,b < x.block):FrOk p { f with path:=f.path++[⟨b,0⟩] }:=by
 refine ⟨h.f0,h.f1,h.sl,fun x hx=>?_,?_⟩
 ·rcases List.mem_append.1 hx with hx | hx
  ·exact h.pl x hx
  ·have:x=⟨b,0⟩:=by simpa using hx
   subst this;exact hp
 ·show List.Pairwise _ ((f.path++[(⟨b,0⟩:GPlace)]).map fun x:GPlace=>x.block)
  rw [List.map_append,List.pairwise_append]
  refine ⟨h.dec,by simp,fun x hx y hy=>?_⟩
  obtain ⟨z,hz,rfl⟩:=List.mem_map.1 hx
  have:y=b:=by simpa using hy
  subst this;exact hd z hz
theorem FrOk.last {p:GProg} {f:GFrame} (h:FrOk p f) (hne:f.path≠[]):∀ x∈f.path,f.pl.block≤x.block:=fun x hx=>by
 obtain ⟨i,hi,rfl⟩:=List.getElem_of_mem hx
 have hl:=List.length_pos_iff.2 hne
 unfold GFrame.pl
 by_cases e:i=f.path.length - 1
 ·subst e;rw [jbl (by omega)];exact Int.le_refl _
 ·have:=List.pairwise_iff_getElem.1 (List.pairwise_map.1 h.dec) i (f.path.length - 1) hi (by omega) (by omega)
  rw [jbl (by omega)];omega
theorem jfI {p:GProg} (h:SOk p) {k:Nat} (hk:k < p.tree.fns.length) {args:List GValue} (ha:args.length=(nth p.tree.fns k).params.length):FrOk p (jbi p k args)∧(nth p.size k).toNat=(jbi p k args).slots.length∧0≤nth p.size k∧nth p.size k≤24:=by
 have hs:=h.fns k hk
 have h1:=hs.par
 have h2:=hs.hi
 have hb:=h.ok.tree.body (nth p.tree.fns k) (jaP hk)
 have hn:=jeN h.ok.tree hk
 have hl:(jbi p k args).slots.length=(nth p.size k).toNat:=by
  show (args++List.replicate _ v0).length=_
  rw [Int.toNat_natCast]<;>(try simp)<;>omega
 have hch:=hs.chain.le
 refine ⟨⟨by show (0:Int)≤(k:Int);omega,by show (k:Int) < _;omega,?_,fun x hx=>?_,by simp [jbi]⟩,hl.symm,by omega,h2⟩
 ·rw [hl];show _=nth p.size (k:Int).toNat;rw [Int.toNat_natCast];omega
 ·have:x=⟨(nth p.tree.fns k).body,0⟩:=by simpa [jbi] using hx
  subst this
  show PlOk p (k:Int) _
  refine ⟨hn.1,?_,?_,hb,Int.le_refl _,by show (0:Int)≤_;omega⟩
  ·rw [Int.toNat_natCast];exact hch
  ·rw [Int.toNat_natCast];exact Nat.le_refl _
theorem jmq {α:Type} [Inhabited α] (f:α→ByteArray) (nm:ByteArray):∀ (l:List α) (i:Int),(∃ v∈l,f v=nm)→i≤jcR f nm l i∧jcR f nm l i < i+l.length∧f (nth l (jcR f nm l i - i).toNat)=nm
 | [],_,h=>by obtain ⟨v,hv,_⟩:=h;simp at hv
 | v::l,i,h=>by
  unfold jcR
  by_cases hv:f v=nm
  ·rw [if_pos hv]
   refine ⟨Int.le_refl _,by simp;omega,?_⟩
   rw [show (i - i).toNat=0 by omega];exact hv
  ·rw [if_neg hv]
   obtain ⟨u,hu,hh⟩:=h
   have hu:u∈l:=by
    rcases List.mem_cons.1 hu with rfl | hu
    ·exact (hv hh).elim
    ·exact hu
   obtain ⟨a,b,c⟩:=jmq f nm l (i+1) ⟨u,hu,hh⟩
   refine ⟨by omega,by simp;omega,?_⟩
   rw [show (jcR f nm l (i+1) - i).toNat=(jcR f nm l (i+1) - (i+1)).toNat+1 by omega]
   exact c
theorem jp8 {α:Type} (f:α→ByteArray) (nm:ByteArray):∀ (l:List α) (i k:Int),jdh f nm l i k≠k→∃ v∈l,f v=nm
 | [],_,_,h=>(h rfl).elim
 | v::l,i,k,h=>by
  unfold jdh at h
  by_cases hv:f v=nm
  ·exact ⟨v,by simp,hv⟩
  ·rw [if_neg hv] at h
   obtain ⟨u,hu,hh⟩:=jp8 f nm l _ _ h
   exact ⟨u,by simp [hu],hh⟩
structure Callee (p:GProg) (a:Int) (k:Nat):Prop where
 lt:k < p.tree.fns.length
 at_:jcR GFunc.name (jak p a).name p.tree.fns 0=k
 last:jdh GFunc.name (jak p a).name p.tree.fns 0 (-1)=k
 name:(nth p.tree.fns k).name=(jak p a).name
 args:(jak p a).l.length=(nth p.tree.fns k).params.length
 few:(jak p a).l.length≤3
theorem callee {p:GProg} (h:SOk p) {a:Int} (h0:a.toNat < p.tree.nodes.length) (hk:(jak p a).kind=21):∃ k,Callee p a k:=by
 obtain ⟨h1,h2⟩:=(h.ok.ty a.toNat (by omega) h0).call hk
 have hx:=jp8 GFunc.name (jak p a).name p.tree.fns 0 (-1) (by show jdh GFunc.name (nth p.tree.nodes a.toNat).name p.tree.fns 0 (-1)≠-1;omega)
 have e:=jk5 GFunc.name (jak p a).name p.tree.fns 0 (-1) (fun a b=>h.names.one a b) hx
 obtain ⟨f1,f2,f3⟩:=jmq GFunc.name (jak p a).name p.tree.fns 0 hx
 refine ⟨(jcR GFunc.name (jak p a).name p.tree.fns 0).toNat,by omega,by omega,by omega,?_,?_,?_⟩
 ·rwa [Int.sub_zero] at f3
 ·unfold jak at e ⊢;rw [← e];exact h2
 ·have hm:=(h.ok.tree.fn _ (jaP (l:=p.tree.fns) (k:=(jcR GFunc.name (jak p a).name p.tree.fns 0).toNat) (by omega))).2
  unfold jak at e hm ⊢;rw [← e] at hm;rw [h2];exact hm
structure Doing (p:GProg) (R:RS):Prop where
 inv:InvR p R
 full:R.nf=R.frs.length
 one:1≤R.nf
 top:jrt p R.topF
 jp:∀ k,k < R.frs.length→nth R.jp k=[]
 cells:jbh R.heap≤40
 outs:R.out_.length≤24
 in0:0≤R.in_
 in1:R.in_≤1000
theorem Doing.topE {p:GProg} {R:RS} (h:Doing p R):R.st.top=R.topF:=RS.top h.inv.ok h.one
theorem Doing.stAt {p:GProg} (hs:SOk p) {R:RS} (h:Doing p R):StAt p R.st:=by
 have h1:=h.one
 have h2:=h.full
 have h3:=h.inv.frs
 have hl:R.st.frames.length=R.nf:=by show (R.frs.take R.nf).length=_;simp;omega
 exact j1T hs (by omega) (by omega) (by rw [h.topE];exact h.inv.fr _ (by omega)) (by rw [h.topE];exact h.top)
theorem Doing.stmt {p:GProg} (hs:SOk p) {R:RS} (h:Doing p R):0≤atV p R.st∧(atV p R.st).toNat < p.tree.nodes.length∧isS (jan p.tree.nodes (atV p R.st))∧jfb p.tree R.topF.fn.toNat≤(atV p R.st).toNat∧(atV p R.st).toNat < R.topF.pl.block.toNat∧R.topF.pl.block.toNat≤(nth p.tree.fns R.topF.fn.toNat).body.toNat:=by
 have hf:=h.inv.fr (R.nf - 1) (by have:=h.one;omega)
 have hf:FrOk p R.topF:=hf
 have hx:=hf.pl _ (jlw h.top.1)
 have hb:=h.top.2
 have ha0:=hx.a0
 have hb0:=hx.b0
 have hi:=hx.in_ hs hf.f0 hf.f1
 have hm:atV p R.st∈jb3 p R.topF.pl.block:=by unfold atV;rw [h.topE];exact jaP (by omega)
 obtain ⟨k0,k1,k2,k3⟩:=hx.kid hs hf.f0 hf.f1 hm
 exact ⟨k0,by omega,k3,k2,k1,hx.hi⟩
theorem jyN {p:GProg} (h:SOk p) (R:RS) {a:Int} (h0:0≤a) (h1:a.toNat < p.tree.nodes.length) (hk:isE (jan p.tree.nodes a)):Told (R.val p a) (nth p.types a.toNat):=jeo h.ok R.topF.slots R.heap _ a h0 (by omega) (by omega) hk
theorem jnb {p:GProg} (R:RS):∀ (l:List Int) (a:List GValue),(R.args p l a).2=0→(R.args p l a).1.length=a.length+l.length
 | [],a,_=>by simp [RS.args]
 | x::l,a,h=>by
  unfold RS.args at h ⊢
  split
  ·rename_i e;rw [if_pos e] at h;exact (e h).elim
  ·rename_i e;rw [if_neg e] at h
   rw [jnb R l _ h];simp;omega
theorem j0q (l:List Int):jfv 0 l=l.length:=by simp [jfv]
theorem ja2:∀ (h:List (List Int)) (n:Int),h.foldl jfv n=n+h.foldl jfv (0:Int)
 | [],n=>by simp [List.foldl]
 | x::h,n=>by
  simp only [List.foldl_cons]
  rw [ja2 h (jfv n x),ja2 h (jfv 0 x)];unfold jfv;omega
theorem jot (h:List (List Int)) (x:List Int):jbh (h++[x])=jbh h+x.length+1:=by
 unfold jbh
 rw [List.foldl_append,List.foldl_cons,List.foldl_nil,List.length_append,ja2 h _,ja2 h (h.length:Int)]
 unfold jfv;simp;omega
theorem jfl:∀ (h:List (List Int)),0≤h.foldl jfv (0:Int)
 | []=>by simp
 | x::h=>by
  simp only [List.foldl_cons]
  rw [ja2,j0q];have:=jfl h;omega
theorem jaO (h:List (List Int)):(h.length:Int)≤jbh h:=by
 unfold jbh;rw [ja2];have:=jfl h;omega
theorem jns:∀ (h:List (List Int)) (i:Nat) (x:List Int),i < h.length→x.length=(nth h i).length→(h.set i x).foldl jfv (0:Int)=h.foldl jfv 0
 | [],i,x,hi,_=>by simp at hi
 | y::h,0,x,_,e=>by
  have e:x.length=y.length:=e
  simp only [List.set_cons_zero,List.foldl_cons,jfv,e]
 | y::h,i+1,x,hi,e=>by
  simp only [List.set_cons_succ,List.foldl_cons]
  rw [ja2 (h.set i x) (jfv 0 y),ja2 h (jfv 0 y),jns h i x (by simpa using hi) e]
theorem jpE (h:List (List Int)) (i:Nat) (x:List Int) (hi:i < h.length) (e:x.length=(nth h i).length):jbh (h.set i x)=jbh h:=by
 unfold jbh
 rw [List.length_set,ja2 (h.set i x) (h.length:Int),ja2 h (h.length:Int),jns h i x hi e]
theorem jkU:∀ (h:List (List Int)) (i:Nat),i < h.length→((nth h i).length:Int)≤h.foldl jfv 0
 | [],i,hi=>by simp at hi
 | y::h,0,_=>by
  simp only [List.foldl_cons]
  rw [ja2,j0q];have:=jfl h;show (y.length:Int)≤_;omega
 | y::h,i+1,hi=>by
  simp only [List.foldl_cons]
  rw [ja2,j0q];have:=jkU h i (by simpa using hi);show ((nth h i).length:Int)≤_;omega
theorem jdM (h:List (List Int)) (i:Nat) (hi:i < h.length):((nth h i).length:Int)+h.length≤jbh h:=by
 unfold jbh;rw [ja2];have:=jkU h i hi;omega
structure After (p:GProg) (R:RS):Prop where
 inv:InvR p R
 cells:jbh R.heap≤40
 outs:R.out_.length≤24
 in0:0≤R.in_
 in1:R.in_≤1000
theorem After.of {p:GProg} {R R':RS} (h:Doing p R) (hi:InvR p R') (k:Kept R R'):After p R':=⟨hi,by rw [k.heap];exact h.cells,by rw [k.out_];exact h.outs,by rw [k.in_];exact h.in0,by rw [k.in_];exact h.in1⟩
theorem Doing.with {p:GProg} {R:RS} (h:Doing p R) {hp:List (List Int)} {i:Int} {o:List ByteArray} (h1:jbh hp≤40) (h2:0≤i∧i≤1000) (h3:o.length≤24):Doing p { R with heap:=hp,in_:=i,out_:=o }:=
 ⟨⟨⟨h.inv.ok.nf,h.inv.ok.jp⟩,h.inv.frs,h.inv.fr,h.inv.busy,h.inv.go⟩,h.full,h.one,h.top,h.jp,h1,h3,h2.1,h2.2⟩
theorem Doing.store {p:GProg} {R:RS} (h:Doing p R) (node:Int) (v:GValue):After p (R.store p node v):=by
 have h1:=h.one
 have hf:=jtR (h.inv.fr (R.nf - 1) (by omega)) (nth p.slots node.toNat).toNat v
 have hi:InvR p (R.setS p node v):=h.inv.upd h1 hf
 have ht:(R.setS p node v).topF=_:=RS.topF_upd h.inv.ok h1 _
 have hb:jrt p (R.setS p node v).topF:=by rw [ht];exact h.top
 exact After.of h (hi.on h1 hb) ⟨rfl,rfl,rfl,rfl,rfl⟩
theorem Doing.on {p:GProg} {R:RS} (h:Doing p R):After p R.on:=After.of h (h.inv.on h.one h.top) ⟨rfl,rfl,rfl,rfl,rfl⟩
theorem Doing.block {p:GProg} (hs:SOk p) {R:RS} (h:Doing p R) {b:Int} (hb:b∈(jak p (atV p R.st)).l) (hk:jan p.tree.nodes b=18):PlOk p R.topF.fn ⟨b,0⟩∧b < R.topF.pl.block∧0≤b∧b.toNat < p.tree.nodes.length:=by
 obtain ⟨s0,s1,s2,s3,s4,s5⟩:=h.stmt hs
 have sh:=hs.ok.tree.shape _ s1
 have hbl:=sh.2.1 b hb
 have hf:FrOk p R.topF:=h.inv.fr (R.nf - 1) (by have:=h.one;omega)
 have hlo:jfb p.tree R.topF.fn.toNat≤b.toNat:=by
  have hc:=(hs.fns R.topF.fn.toNat (by have:=hf.f0;have:=hf.f1;omega)).chain
  exact hc.closed _ s3 (by omega) b hb
 exact ⟨⟨hbl.1,hlo,by show b.toNat≤_;omega,hk,Int.le_refl _,by show (0:Int)≤_;omega⟩,by omega,hbl.1,by omega⟩
theorem Doing.deeper {p:GProg} (hs:SOk p) {R R':RS} (h:Doing p R) {b:Int} (hb:b∈(jak p (atV p R.st)).l) (hk:jan p.tree.nodes b=18) (hR:R'=R∨R'=R.on):After p (R'.deeper b):=by
 have h1:=h.one
 obtain ⟨b1,b2,b3,b4⟩:=h.block hs hb hk
 have hf:FrOk p R.topF:=h.inv.fr (R.nf - 1) (by omega)
 rcases hR with rfl | rfl
 ·exact After.of h (h.inv.upd h1 (jkW hf b1 fun x hx=>by have:=hf.last h.top.1 x hx;omega)) ⟨rfl,rfl,rfl,rfl,rfl⟩
 ·have hi:=h.inv.on h1 h.top
  have ht:R.on.topF=onF R.topF:=RS.topF_upd h.inv.ok h1 _
  have hf':=jnT hf h.top
  have hl:∀ x∈(onF R.topF).path,b < x.block:=fun x hx=>by
   rcases jd8 hx with rfl | hx
   ·exact b2
   ·have:=hf.last h.top.1 x hx;omega
  refine After.of h (hi.upd h1 (f:={ R.on.topF with path:=R.on.topF.path++[⟨b,0⟩] }) ?_) ⟨rfl,rfl,rfl,rfl,rfl⟩
  rw [ht]
  exact jkW hf' b1 hl
theorem Doing.call {p:GProg} (hs:SOk p) {R:RS} (h:Doing p R) {a:Int} (h0:a.toNat < p.tree.nodes.length) (hk:(jak p a).kind=21) (he:(R.call p a).2=0):After p (R.call p a).1:=by
 obtain ⟨k,hc⟩:=callee hs h0 hk
 unfold RS.call at he ⊢
 simp only at he ⊢
 split at he
 ·rename_i e;exact (e he).elim
 rename_i e
 rw [if_neg e]
 split at he
 ·exact ((by decide:¬((3:Int)=0)) he).elim
 rename_i e8
 rw [if_neg e8,hc.at_]
 have hl:=jnb R _ [] (Classical.not_not.1 e)
 exact After.of h (h.inv.push h.full (by omega) (fun _=>h.top) (jfI hs hc.lt (by rw [hl];simpa using hc.args)).1) ⟨rfl,rfl,rfl,rfl,rfl⟩
theorem Doing.fresh {p:GProg} {R:RS} (h:Doing p R) (x:Int) (he:(R.fresh p x).2.2=0):Doing p (R.fresh p x).1:=by
 unfold RS.fresh at he ⊢
 simp only at he ⊢
 split at he
 ·rename_i e;exact (e he).elim
 rename_i e
 rw [if_neg e]
 split at he
 ·exact ((by decide:¬((7:Int)=0)) he).elim
 rename_i e1
 rw [if_neg e1]
 split at he
 ·exact ((by decide:¬((4:Int)=0)) he).elim
 rename_i e2
 rw [if_neg e2]
 refine h.with (hp:=R.heap++[List.replicate _ 0]) (i:=R.in_) (o:=R.out_) ?_ ⟨h.in0,h.in1⟩ h.outs
 rw [jot];simp;omega
theorem Doing.does {p:GProg} (hs:SOk p) {R:RS} (h:Doing p R) {inp:List Int} (hn:inp.length≤1000) (hw:¬ jbR p R.st (atV p R.st) inp) (he:(R.does p (atV p R.st) inp).2=0):After p (R.does p (atV p R.st) inp).1:=by
 obtain ⟨s0,s1,s2,_⟩:=h.stmt hs
 have sh:=(hs.ok.tree.shape _ s1)
 generalize hnode:atV p R.st=node at *
 have kid:∀ i,i < (jak p node).l.length→0≤nth (jak p node).l i∧(nth (jak p node).l i).toNat < p.tree.nodes.length:=fun i hi=>by
  have:=sh.2.1 _ (jaP (l:=(jak p node).l) hi);omega
 have hblk:∀ b,b∈(jak p node).l→jan p.tree.nodes b=18→∀ R',(R'=R∨R'=R.on)→After p (R'.deeper b):=fun b hb hk R' hR=>h.deeper hs (by rw [hnode];exact hb) hk hR
 unfold RS.does at he ⊢
 simp only at he ⊢
 split at he
 ·rename_i e
  rw [if_pos e]
  obtain ⟨a,ha,hr⟩:=sh.1.right e
  have hla:(jak p node).l=[a]:=ha
  have ha0:=kid 0 (by rw [hla];simp)
  have hx:nth (jak p node).l 0=a:=by rw [hla];rfl
  rw [hx] at ha0
  unfold RS.right at he ⊢
  simp only [hx] at he ⊢
  split at he
  ·rename_i e1;rw [if_pos e1];exact h.call hs ha0.2 e1 he
  rename_i e1;rw [if_neg e1]
  split at he
  ·rename_i e2;rw [if_pos e2]
   have hin:¬ ((inp.length:Int)≤R.in_):=fun hle=>hw ⟨e,by rw [hx];exact e2,hle⟩
   have hd:Doing p { R with in_:=R.in_+1 }:=h.with (hp:=R.heap) (i:=R.in_+1) (o:=R.out_) h.cells ⟨by have:=h.in0;omega,by omega⟩ h.outs
   exact hd.store node _
  rename_i e2;rw [if_neg e2]
  split at he
  ·rename_i e3;rw [if_pos e3]
   split at he
   ·rename_i e4;rw [if_pos e4]
    exact (h.fresh a e4).store node _
   ·rename_i e4;exact (e4 he).elim
  rename_i e3;rw [if_neg e3]
  split at he
  ·rename_i e4;rw [if_pos e4];exact h.store node _
  ·rename_i e4;exact (e4 he).elim
 rename_i e;rw [if_neg e]
 split at he
 ·rename_i e1;rw [if_pos e1]
  obtain ⟨a,ha,hr⟩:=sh.1.do_ e1
  have hla:(jak p node).l=[a]:=ha
  have ha0:=kid 0 (by rw [hla];simp)
  have hx:nth (jak p node).l 0=a:=by rw [hla];rfl
  rw [hx] at ha0 he ⊢
  exact h.call hs ha0.2 hr he
 rename_i e1;rw [if_neg e1]
 split at he
 ·rename_i e2;rw [if_pos e2]
  unfold RS.put at he ⊢
  simp only at he ⊢
  split at he
  ·rename_i e3;exact (e3 he).elim
  rename_i e3;rw [if_neg e3]
  split at he
  ·rename_i e4;exact (e4 he).elim
  rename_i e4;rw [if_neg e4]
  split at he
  ·exact ((by decide:¬((2:Int)=0)) he).elim
  rename_i e5;rw [if_neg e5]
  have hg:(jb2 R.heap (jgh R.topF.slots (nth p.slots node.toNat) 4)).length≠0:=by omega
  generalize hv:jgh R.topF.slots (nth p.slots node.toNat) 4=v at *
  unfold jb2 at hg
  split at hg
  ·simp at hg
  rename_i e6
  exact (h.with (hp:=R.heap.set _ _) (i:=R.in_) (o:=R.out_) (by rw [jpE _ _ _ (by omega) (by simp)];exact h.cells) ⟨h.in0,h.in1⟩ h.outs).on
 rename_i e2;rw [if_neg e2]
 split at he
 ·rename_i e3;rw [if_pos e3]
  split at he
  ·rename_i e4;rw [if_pos e4]
   exact After.of h (h.inv.tells h.one v0).1 (jeZ R p v0)
  rename_i e4;rw [if_neg e4]
  split at he
  ·rename_i e5;exact (e5 he).elim
  rename_i e5;rw [if_neg e5]
  exact After.of h (h.inv.tells h.one _).1 (jeZ R p _)
 rename_i e3;rw [if_neg e3]
 split at he
 ·rename_i e4;exact (e4 he).elim
 rename_i e4;rw [if_neg e4]
 split at he
 ·rename_i e5;rw [if_pos e5]
  split at he
  ·exact ((by decide:¬((5:Int)=0)) he).elim
  rename_i e6;rw [if_neg e6]
  exact (h.with (hp:=R.heap) (i:=R.in_) (o:=R.out_++[_]) h.cells ⟨h.in0,h.in1⟩ (by simp;omega)).on
 rename_i e5;rw [if_neg e5]
 split at he
 ·rename_i e6;rw [if_pos e6]
  obtain ⟨a,b,h1,h2,hl⟩:=sh.1.if_ e6
  split
  ·refine hblk _ ?_ ?_ _ (.inr rfl)
   ·rcases hl with hl | ⟨d,hl,_⟩<;>(show nth (jak p node).l 1∈(jak p node).l;unfold jak;rw [hl];simp [nth])
   ·rcases hl with hl | ⟨d,hl,_⟩<;>(unfold jak;rw [hl];exact h2)
  split
  ·rename_i e8
   rcases hl with hl | ⟨d,hl,hd⟩
   ·exfalso;unfold jak at e8;rw [hl] at e8;simp at e8
   ·refine hblk _ ?_ ?_ _ (.inr rfl)
    ·unfold jak;rw [hl];simp [nth]
    ·unfold jak;rw [hl];exact hd
  ·exact h.on
 rename_i e6;rw [if_neg e6]
 split at he
 ·rename_i e7;rw [if_pos e7]
  obtain ⟨a,b,hl,h1,h2⟩:=sh.1.while_ e7
  split
  ·refine hblk _ ?_ ?_ _ (.inl rfl)
   ·unfold jak;rw [hl];simp [nth]
   ·unfold jak;rw [hl];exact h2
  ·exact h.on
 ·rename_i e7
  exfalso
  have:isS (jak p node).kind:=s2
  unfold isS at this;omega
theorem jcx {p:GProg}:∀ (n:Nat) (R:RS),InvR p R→R.left < n→InvR p (jbf p n R)∧((jbf p n R).status=2∨(1≤(jbf p n R).nf∧jrt p (jbf p n R).topF))
 | 0,R,_,h=>by omega
 | n+1,R,hI,hn=>by
  unfold jbf
  split
  ·rename_i e;exact ⟨hI,.inl e⟩
  rename_i e
  have hg:=hI.go e
  split
  ·obtain ⟨a,b,_⟩:=hI.tells hg (vZ (nth p.tree.fns R.topF.fn.toNat).ret)
   exact jcx n _ a (by omega)
  rename_i e1
  split
  ·rename_i e2;exact ⟨hI,.inr ⟨hg,fun h=>e1 (by rw [h];rfl),e2⟩⟩
  ·obtain ⟨a,b⟩:=hI.cut hg e1
   exact jcx n _ a (by omega)
structure StInv (p:GProg) (s:GState):Prop where
 inv:InvR p (RS.of s)
 top:s.status≠2→jrt p (RS.of s).topF
 cells:jbh s.heap≤40
 outs:s.out_.length≤24
 in0:0≤s.in_
 in1:s.in_≤1000
theorem jih {α:Type} [Inhabited α] (l:List α) (n k:Nat) (h:k < n):nth (l.take n) k=nth l k:=by
 unfold nth;rw [List.getD_eq_getElem?_getD,List.getElem?_take,if_pos h,List.getD_eq_getElem?_getD]
theorem jey {α:Type} [Inhabited α] {β:Type} (l:List β) (x:α) (k:Nat) (h:k < l.length):nth (l.map fun _=>x) k=x:=by
 rw [jbl (by simpa using h)];simp
theorem InvR.st {p:GProg} {R:RS} (h:InvR p R):InvR p (RS.of R.st):=by
 have hnf:=h.ok.nf
 have hl:(RS.of R.st).nf=R.nf:=by show (R.frs.take R.nf).length=_;simp;omega
 have hfr:∀ k,k < R.nf→nth (RS.of R.st).frs k=nth R.frs k:=fun k hk=>jih _ _ _ hk
 refine ⟨RS.of_ok _,?_,fun k hk=>?_,fun k hk=>?_,fun e=>?_⟩
 ·have:=h.frs;show (R.frs.take R.nf).length≤8;simp;omega
 ·rw [hl] at hk;rw [hfr k hk];exact h.fr k hk
 ·rw [hl] at hk;rw [hfr k (by omega)];exact h.busy k hk
 ·rw [hl];exact h.go e
theorem After.settled {p:GProg} {R:RS} (h:After p R):StInv p (R.settle p).st:=by
 obtain ⟨h1,h2⟩:=jcx (R.left+1) R h.inv (by omega)
 have k:=jbJ p (R.left+1) R
 change InvR p (R.settle p) at h1
 change (R.settle p).status=2∨(1≤(R.settle p).nf∧jrt p (R.settle p).topF) at h2
 change Kept R (R.settle p) at k
 generalize R.settle p=T at *
 have hnf:=h1.ok.nf
 have hl:(RS.of T.st).nf=T.nf:=by show (T.frs.take T.nf).length=_;simp;omega
 refine ⟨h1.st,fun e=>?_,by show jbh T.heap≤40;rw [k.heap];exact h.cells,by show T.out_.length≤24;rw [k.out_];exact h.outs,by show 0≤T.in_;rw [k.in_];exact h.in0,by show T.in_≤1000;rw [k.in_];exact h.in1⟩
 rcases h2 with h2 | ⟨h2,h3⟩
 ·exact (e h2).elim
 ·unfold RS.topF at h3 ⊢
  rw [hl,show nth (RS.of T.st).frs (T.nf - 1)=nth T.frs (T.nf - 1) from jih _ _ _ (by omega)]
  exact h3
theorem StInv.doing {p:GProg} {s:GState} (h:StInv p s) (h2:s.status≠2) (c:Int) (hc:c≠2):Doing p (RS.of { s with status:=c }):=by
 have hg:=h.inv.go h2
 exact ⟨⟨⟨h.inv.ok.nf,h.inv.ok.jp⟩,h.inv.frs,h.inv.fr,h.inv.busy,fun _=>hg⟩,rfl,hg,h.top h2,fun k hk=>jey _ _ _ hk,h.cells,h.outs,h.in0,h.in1⟩
theorem StInv.with {p:GProg} {s:GState} (h:StInv p s) (h2:s.status≠2) (c t n:Int):StInv p { s with status:=c,trap:=t,time:=n }:=by
 have hg:=h.inv.go h2
 exact ⟨⟨⟨h.inv.ok.nf,h.inv.ok.jp⟩,h.inv.frs,h.inv.fr,h.inv.busy,fun _=>hg⟩,fun _=>h.top h2,h.cells,h.outs,h.in0,h.in1⟩
theorem jq6 {p:GProg} (hs:SOk p) {s:GState} (h:StInv p s) {inp:List Int} (hn:inp.length≤1000):StInv p (jbc p s inp):=by
 unfold jbc
 split
 ·exact h
 rename_i e
 have h2:¬ (s.status=2∨s.status=3):=fun hh=>e (by unfold jav;rw [if_pos hh];decide)
 have e2:jav p s=atV p s:=by unfold jav;rw [if_neg h2]
 split
 ·exact h.with (fun hh=>h2 (.inl hh)) _ _ _
 rename_i ew
 simp only
 split
 ·exact h.with (fun hh=>h2 (.inl hh)) _ _ _
 rename_i et
 have hd:=h.doing (fun hh=>h2 (.inl hh)) 0 (by decide)
 have hst:(RS.of { s with status:=0 }).st={ s with status:=0 }:=RS.of_st _
 have hat:atV p (RS.of { s with status:=0 }).st=jav p s:=by rw [hst,e2];rfl
 have ha:=hd.does hs hn (by rw [hat];rw [hst];exact ew) (by rw [hat];exact Classical.not_not.1 et)
 rw [hat] at ha
 exact After.settled ⟨⟨⟨ha.inv.ok.nf,ha.inv.ok.jp⟩,ha.inv.frs,ha.inv.fr,ha.inv.busy,ha.inv.go⟩,ha.cells,ha.outs,ha.in0,ha.in1⟩
end Go.Proofs.YtfkgcobaheegbaaGreatDoor
