/- Values: the document's, and the program's. What a program means: a state settles. What expressions tell: of which type it is. What a program means: what a statement keeps. No conditions. -/
import Derived.Test.YtdekkklnfifphaaGreatDoorGdTm
import Derived.Test.YtdekkklnfifphaaGreatDoorP2
import Derived.Test.YtdekkklnfifphaaGreatDoorLxT
import Derived.Test.YtdekkklnfifphaaGreatDoorViS
import Derived.Test.YtdekkklnfifphaaGreatDoorTyF
import Derived.Test.YtdekkklnfifphaaGreatDoorEvS
set_option linter.all false
namespace Go.Proofs.YtdekkklnfifphaaGreatDoor
open Go Go.Gd
abbrev rV (v:GValue):AV:=.agg (jan v)
set_option maxHeartbeats 1000000
set_option maxRecDepth 10000
theorem ji5 (n:Int):PCall Tryz.prog 137 [rI n] (rV (vI n)):=by
 refine jbO Tryz.func137 Tryz.ntmps137 ?_
 (repeat' (first|refine jaa fun K hK=>?_|refine wkA ?_|(refine hK _ _ ?_;clear hK K)|(refine jad (fun hc=>?_) (fun hc=>?_)<;>first | contradiction | (exfalso;omega) | skip)|refine wkB ?_|exact True.intro|(clear hK K)))
 (refine jaU [.cell 2 49] ?_;try simp only [go_sem])
 rfl
theorem jjG (b:Bool):PCall Tryz.prog 165 [rB b] (rV (vB b)):=by
 refine jbO Tryz.func165 Tryz.ntmps165 ?_
 (repeat' (first|refine jaa fun K hK=>?_|refine wkA ?_|(refine hK _ _ ?_;clear hK K)|(refine jad (fun hc=>?_) (fun hc=>?_)<;>first | contradiction | (exfalso;omega) | skip)|refine wkB ?_|exact True.intro|(clear hK K)))
 all_goals (refine jaU [.cell 2 49] ?_;try simp only [go_sem])
 all_goals simp_all [vB,jan]
theorem jrO (s:ByteArray):PCall Tryz.prog 166 [rS s] (rV (vT s)):=by
 refine jbO Tryz.func166 Tryz.ntmps166 ?_
 (repeat' (first|refine jaa fun K hK=>?_|refine wkA ?_|(refine hK _ _ ?_;clear hK K)|(refine jad (fun hc=>?_) (fun hc=>?_)<;>first | contradiction | (exfalso;omega) | skip)|refine wkB ?_|exact True.intro|(clear hK K)))
 (refine jaU [.cell 2 49] ?_;try simp only [go_sem])
 rfl
theorem jr9 (t:Int):PCall Tryz.prog 89 [rI t] (rV (vZ t)):=by
 refine jbO Tryz.func89 Tryz.ntmps89 ?_
 (repeat' (first|refine jaa fun K hK=>?_|refine wkA ?_|(refine hK _ _ ?_;clear hK K)|(refine jad (fun hc=>?_) (fun hc=>?_)<;>first | contradiction | (exfalso;omega) | skip)|refine wkB ?_|exact True.intro|(clear hK K)))
 (refine jaU [.cell 2 49] ?_;try simp only [go_sem])
 rfl
theorem jzo (v:GValue):PCall Tryz.prog 43 [rV v] (rB (jl7 v)):=by
 refine jbO Tryz.func43 Tryz.ntmps43 ?_
 (repeat' (first|refine jaa fun K hK=>?_|refine wkA ?_|(refine hK _ _ ?_;clear hK K)|(refine jad (fun hc=>?_) (fun hc=>?_)<;>first | contradiction | (exfalso;omega) | skip)|refine wkB ?_|exact True.intro|(clear hK K)))
 all_goals (refine jaU [.tmp 2] ?_;try simp only [go_sem])
 all_goals simp_all [jl7]
theorem jvF (g:ByteArray) (a b:Int):PCall Tryz.prog 201 [rS g,rI a,rI b] (.tup [rV (jj4 g a b).1,rI (jj4 g a b).2]):=by
 refine jbO Tryz.func201 Tryz.ntmps201 ?_
 (repeat' (first|refine jaa fun K hK=>?_|refine wkA ?_|(refine hK _ _ ?_;clear hK K)|(refine jad (fun hc=>?_) (fun hc=>?_)<;>first | contradiction | (exfalso;omega) | skip)|refine cp (ji5 _) ?_|refine cp (jjG _) ?_|refine wkB ?_|exact True.intro|(clear hK K)))
 all_goals (refine jaU [.cell 6 49,.tmp 7] ?_;try simp only [go_sem])
 all_goals simp_all [jj4]
 all_goals rfl
theorem jx9 (g:ByteArray) (a b:GValue) (ha:a.s.size≤1000000) (hb:b.s.size≤1000000):PCall Tryz.prog 185 [rS g,rV a,rV b] (.tup [rV (jp0 g a b).1,rI (jp0 g a b).2]):=by
 refine jbO Tryz.func185 Tryz.ntmps185 ?_
 (repeat' (first|refine jaa fun K hK=>?_|refine wkA ?_|(refine hK _ _ ?_;clear hK K)|(refine jad (fun hc=>?_) (fun hc=>?_)<;>first | contradiction | (exfalso;omega) | skip)|refine cp (jjG _) ?_|refine cp (jrO _) ?_|refine cp (jvF _ _ _) ?_|refine wkB ?_|exact True.intro|(clear hK K)))
 all_goals (refine jaU [.cell 6 49,.tmp 7] ?_;try simp only [go_sem])
 all_goals (unfold jp0;(repeat' split)<;>first | rfl | (exfalso;omega) | (exfalso;simp_all;done) | (simp_all [jan,vB];done) | (exfalso;simp_all;omega) | skip)
theorem jwk (g:ByteArray) (a:GValue):PCall Tryz.prog 169 [rS g,rV a] (rV (jhk g a)):=by
 refine jbO Tryz.func169 Tryz.ntmps169 ?_
 (repeat' (first|refine jaa fun K hK=>?_|refine wkA ?_|(refine hK _ _ ?_;clear hK K)|(refine jad (fun hc=>?_) (fun hc=>?_)<;>first | contradiction | (exfalso;omega) | skip)|refine cp (jjG _) ?_|refine cp (ji5 _) ?_|refine wkB ?_|exact True.intro|(clear hK K)))
 all_goals (refine jaU [.cell 4 49] ?_;try simp only [go_sem])
 all_goals (unfold jhk;(repeat' split)<;>first | rfl | (exfalso;omega) | (exfalso;simp_all;done) | (simp_all [jan,vB];done) | (exfalso;simp_all;omega) | skip)
end Go.Proofs.YtdekkklnfifphaaGreatDoor
namespace Go.Gd
open Go
theorem jrN {α:Type} [Inhabited α] (l m:List α) (h:l.length≠0):l.take (l.length - 1)++(nth l (l.length - 1)::m)=l++m:=by
 have h1:l.length - 1 < l.length:=by omega
 have e:l.take (l.length - 1)++[nth l (l.length - 1)]=l:=by
  rw [← ja8 h1,List.take_of_length_le (by omega)]
 rw [show l.take (l.length - 1)++(nth l (l.length - 1)::m)=(l.take (l.length - 1)++[nth l (l.length - 1)])++m by simp,e]
theorem RS.e_cut {t:TypeId} {pre post:List AV} {R:RS} {tl:List (Nat×Row)} (hk:R.nf - 1 < R.frs.length) (hj:R.jp.length=R.frs.length) (hp:R.topF.path.length≠0) {c0:List AV} {f:Nat→List AV} (hc:c0=pre++R.c++post)
  (hf:∀ j,f j=if j=R.nf - 1 then [.raw (.int .i64 R.topF.fn),.rs (fid 0 (R.nf - 1)) R.topF.slots.length 3 R.topF.slots.length,.rs (fid 1 (R.nf - 1)) (R.topF.path.length+(nth R.jp (R.nf - 1)).length) 2 (R.topF.path.length - 1)] else R.fr j) :
  (0,.var t c0)::(1,.vec 86 3 (tab R.frs.length f))::(2,.vec 22 1 (tab R.heap.length fun k=>[.rs (fid 2 k) (nth R.heap k).length 1 (nth R.heap k).length]))::(3,.vec 9 1 (R.out_.map eS)) ::
   fam 0 R.frs.length R.sl (fam 1 R.frs.length R.pt (fam 2 R.heap.length R.hp tl))=R.cut.e t pre post tl:=by
 have hu:∀ k,nth R.cut.frs k=if k=R.nf - 1 then { R.topF with path:=R.topF.path.take (R.topF.path.length - 1) } else nth R.frs k:=fun k=>Go.Gd.nth_upd _ _ _ _ hk
 have hv:∀ k,nth R.cut.jp k=if k=R.nf - 1 then R.topF.pl::nth R.jp (R.nf - 1) else nth R.jp k:=fun k=>Go.Gd.nth_upd _ _ _ _ (by omega)
 refine RS.e_mk (by rw [hc];simp [RS.c,RS.cut]) (by simp [RS.cut]) (fun j hj'=>?_) rfl (fun _ _=>rfl) rfl rfl rfl rfl (fun j hj'=>?_) (fun j hj'=>?_) (fun _ _=>rfl) rfl
 ·rw [hf]
  simp only [RS.fr,hu,hv]
  split
  ·rename_i e;subst e
   simp only [List.length_take,List.length_cons]
   rw [show min (R.topF.path.length - 1) R.topF.path.length=R.topF.path.length - 1 by omega,show R.topF.path.length - 1+((nth R.jp (R.nf - 1)).length+1)=R.topF.path.length+(nth R.jp (R.nf - 1)).length by omega]
  ·rfl
 ·simp only [RS.sl,hu]
  split
  ·rename_i e;subst e;rfl
  ·rfl
 ·simp only [RS.pt,hu,hv]
  split
  ·rename_i e;subst e
   show _=Row.vec _ _ ((R.topF.path.take (R.topF.path.length - 1)++(nth R.topF.path (R.topF.path.length - 1)::_)).map _)
   rw [jrN _ _ hp];rfl
  ·rfl
theorem jzp {n:Nat} {S:Type} {W:List (Nat×Nat)} {ok:S→Prop} {J:S→List (Nat×AV)} {G:S→Hp} {μ:S→Nat} {F₀ F:List AV} {H:Hp} {t t':TypeId} {pre post pre' post':List AV} {R0 R':RS} {B:List Nat} (s:S) (tl:List (Nat×Row)) (j:Nat) (x:Row) (h1:ok s) (h2:μ s < n)
  (hH:H=⟨B,R'.e t pre post (tl++[(j,x)])⟩) (hB:ids (R0.e t' pre' post' [])=B) (hG:G s=⟨B,R'.e t pre post tl⟩) (hj:4≤j∧j < 1000) (htl:jas tl j=none) (hp:jaQ noQ pre=true) (hq:jaQ noQ post=true) (hr:∀ i r,jas tl i=some r→jaQ noQ r.cells=true) (hn:(ids tl).Nodup)
  (h3:VToL (fun i=>[j].contains i) H F (jjj (J s) (jlf W F₀)):=by exact vtl):Next n W ok J G μ F₀ F H:=by
 have hD:∀ i,i≠j→(fun i=>[j].contains i) i=false:=fun i hi=>by simp [hi]
 have hno:∀ {R:RS} {t:TypeId} {pre post:List AV} i,i∈ids (R.e t pre post [])→i≠j:=fun i hi e=>by
  subst e
  exact (jcm _ _).1 hi (RS.no _ hj.1 hj.2)
 subst hH
 refine jli (fun i=>[j].contains i) s h1 h2 ?_ ?_ ?_ h3
 ·show B.all _=true
  rw [List.all_eq_true]
  intro i hi
  rw [← hB] at hi
  unfold jdA
  rw [hD i (hno i hi)];rfl
 ·show jeq _ (R'.e t pre post _)
  rw [RS.e_app]
  refine jge _ _ _ (jeQ _ _ RS.nodup fun i r hi=>jbA (fun k hk=>?_) _ (RS.closed hp hq i r hi)) (jge _ _ _ (jeQ _ _ hn fun i r hi=>jbA (fun _ h=>by cases h) _ (hr i r hi)) (jkt _ _ fun i hi=>?_))
  ·unfold jdA
   rw [hD k (hno k (List.contains_iff_mem.1 hk))];rfl
  ·simp [ids] at hi
   subst hi;simp
 ·rw [hG]
  show Hp.mk B (ja7 _ (R'.e t pre post _))=_
  rw [RS.e_app,jeI,jeI,jdT _ _ (fun i hi=>hD i (hno i hi)),jdT _ tl (fun i hi=>hD i fun e=>by subst e;exact (jcm _ _).1 hi htl),jh2 _ [(j,x)] (fun i hi=>by simp [ids] at hi;subst hi;simp),List.append_nil,← RS.e_app]
end Go.Gd
namespace Go.Proofs.YtdekkklnfifphaaGreatDoor
open Go Go.Gd
theorem jqI {i:Nat} {r:Row} (hi:4≤i∧i < 1000):low [(i,r)]:=fun k x hk=>by
 have hk:k∈ids [(i,r)]:=(jcm _ _).2 (by rw [hk];simp)
 simp [ids] at hk
 omega
theorem jlS (R:RS) (p:GProg) (v:GValue):(R.tells p v).frs.length=R.frs.length∧(R.tells p v).heap=R.heap:=by
 unfold RS.tells
 split
 ·exact ⟨rfl,rfl⟩
 ·split
  ·exact ⟨RS.upd_len.symm.trans RS.upd_len.symm,rfl⟩
  ·exact ⟨RS.upd_len.symm,rfl⟩
theorem InvR.at_ {p:GProg} (h:SOk p) {R:RS} (hI:InvR p R) (h2:2≤R.nf):StAt p R.pop.st:=by
 have hnf:=hI.ok.nf
 have hf:=hI.frs
 have hpop:R.pop.Ok:=⟨by show R.nf - 1≤R.frs.length;omega,hI.ok.jp⟩
 have ht:=RS.top hpop (by show 1≤R.nf - 1;omega)
 have hl:R.pop.st.frames.length=R.nf - 1:=by show (R.frs.take (R.nf - 1)).length=_;simp;omega
 exact j29 h (by omega) (by omega) (by rw [ht];exact hI.fr (R.nf - 1 - 1) (by omega)) (by rw [ht];exact hI.busy (R.nf - 1 - 1) (by omega))
set_option maxHeartbeats 2000000 in
set_option maxRecDepth 10000 in
theorem jlN {p:GProg} (h:SOk p) (R:RS) (hI:InvR p R) :
  ACalls Tryz.prog 61 [.agg (jah p),.pt 0 0 0 0] (R.e 42 [] [] []) (fun r l=>r=.tup []∧l=(R.settle p).e 42 [] [] []):=by
 refine jaR Tryz.func61 Tryz.ntmps61 ?_
 generalize hB:ids (R.e 42 [] [] [])=B
 generalize hE:(R.settle p).e 42 [] [] []=E
 (refine S ?_;try exact True.intro)
 (repeat' (first|refine jaa fun K hK=>?_|refine wkA ?_|(refine hK _ _ ?_;clear hK K)|(refine jad (fun hc=>?_) (fun hc=>?_)<;>first | contradiction | (exfalso;omega) | skip)|refine bxF 4 ?_|refine wkB ?_|exact True.intro|(clear hK K)))
 refine jag (S:=RS) [(4,82)] (fun T=>InvR p T∧jbM p (T.left+1) T=R.settle p) (fun _=>[]) (fun T=>⟨B,T.e 42 [] [] [(4,.var 29 (jah p))]⟩) (fun T=>T.left) R ⟨hI,rfl⟩ (jau rfl lle) ?_
 rintro T ⟨hT,hS⟩ Kr hKr
 have hnf:=hT.ok.nf
 have hfr:=hT.frs
 have hjp:=hT.ok.jp
 unfold jbM at hS
 by_cases e0:T.status=2
 ·rw [if_pos e0] at hS
  (refine S ?_;try exact True.intro)
  (repeat' (first|refine jaa fun K hK=>?_|refine wkA ?_|(refine hK _ _ ?_;clear hK K)|(refine jad (fun hc=>?_) (fun hc=>?_)<;>first | contradiction | (exfalso;omega) | skip)|refine wkB ?_|exact True.intro|(clear hK K)))
  subst hE
  rw [← hS]
  exact jeM (R':=T) (tl:=[(4,.var 29 (jah p))]) rfl hB [] (jqI (by omega)) rfl rfl rfl
 rw [if_neg e0] at hS
 have h1:=hT.go e0
 have hk:T.nf - 1 < T.frs.length:=by omega
 have htop:=hT.fr (T.nf - 1) (by omega)
 have hlen:=htop.len h
 have hf0:=htop.f0
 have hf1:=htop.f1
 have htf:T.topF=nth T.frs (T.nf - 1):=rfl
 by_cases e1:T.topF.path.length=0
 ·rw [if_pos e1] at hS
  rw [htf] at e1 hS
  have hte:=jou p (vZ (nth p.tree.fns (nth T.frs (T.nf - 1)).fn.toNat).ret) T hT.ok h1 (by omega) (hT.at_ h)
  obtain ⟨g1,g2,_⟩:=hT.tells h1 (vZ (nth p.tree.fns (nth T.frs (T.nf - 1)).fn.toNat).ret)
  have hle:=jlS T p (vZ (nth p.tree.fns (nth T.frs (T.nf - 1)).fn.toNat).ret)
  have hle1:T.frs.length≤(T.tells p (vZ (nth p.tree.fns (nth T.frs (T.nf - 1)).fn.toNat).ret)).frs.length:=by rw [hle.1];exact Nat.le_refl _
  have hle2:T.heap.length≤(T.tells p (vZ (nth p.tree.fns (nth T.frs (T.nf - 1)).fn.toNat).ret)).heap.length:=by rw [hle.2];exact Nat.le_refl _
  generalize T.tells p (vZ (nth p.tree.fns (nth T.frs (T.nf - 1)).fn.toNat).ret)=T' at *
  have hlow:=jqI (i:=4) (r:=.var 29 (jah p)) (by omega)
  (refine S ?_;try exact True.intro)
  (repeat' (first|refine jaa fun K hK=>?_|refine wkA ?_|(with_reducible refine gR 2 ?_);refine dE 2 [0,1,2,3,4,5,6,7,8,9,10,11] mixed ?_|(with_reducible refine gR 4 ?_);refine dC 4 ([],[40],[]) [] [0,1,2,3,4,5,6,7,8,9,10,11,12,13] mixed ?_|(refine hK _ _ ?_;clear hK K)|(refine jad (fun hc=>?_) (fun hc=>?_)<;>first | contradiction | (exfalso;omega) | skip)|refine cq (jr9 _) ?_|(refine cE (R:=T) (R':=T') (pre:=[]) (post:=[]) (pre':=[]) (post':=[]) hte rfl hle1 hle2 rfl rfl hlow rfl (by simp only [go_sem]) ?_;(refine S ?_;try exact True.intro))|(refine hKr _ _ (jar T' ⟨g1,?_⟩ g2 jhh lle))|refine wkB ?_|exact True.intro|(clear hK K)))
  exact (jej _ _ _ g1 (by omega) (by omega)).trans hS
 ·rw [if_neg e1] at hS
  have hpl:=htop.pl _ (jij (f:=nth T.frs (T.nf - 1)) fun e=>e1 (by rw [htf,e];rfl))
  have hin:=hpl.in_ h hf0 hf1
  have hb0:=hpl.b0
  have ha0:=hpl.a0
  rw [htf] at e1 hS
  have e1':1≤(nth T.frs (T.nf - 1)).path.length:=by omega
  have hlow:=fun (r s:Row)=>jgF (i:=4) (j:=5) (r:=r) (s:=s) (by omega) (by omega)
  by_cases e2:(nth T.frs (T.nf - 1)).pl.at_ < (jcu p (nth T.frs (T.nf - 1)).pl.block).length
  ·rw [if_pos e2] at hS
   unfold jcu GFrame.pl at e2
   unfold GFrame.pl at hin hb0 ha0
   (refine S ?_;try exact True.intro)
   (repeat' (first|refine jaa fun K hK=>?_|refine wkA ?_|(with_reducible refine gR 2 ?_);refine dE 2 [0,1,2,3,4,5,6,7,8,9,10,11] mixed ?_|(with_reducible refine gR 5 ?_);refine dE 5 [0,1,2,3,4,5,6,7,8,9,10,11,12,13] mixed ?_|(with_reducible refine gR 6 ?_);refine dE 6 [0,1,2,3,4,5,6,7,8,9,10,11] mixed ?_|(refine hK _ _ ?_;clear hK K)|(refine jad (fun hc=>?_) (fun hc=>?_)<;>first | contradiction | (exfalso;omega) | skip)|refine alF 5 ?_|refine wkB ?_|exact True.intro|(clear hK K)))
   subst hE
   rw [← hS]
   exact jeM (R':=T) (tl:=[(4,.var 29 (jah p)),(5,.var 92 (jba (nth (nth T.frs (T.nf - 1)).path ((nth T.frs (T.nf - 1)).path.length - 1))))]) rfl hB [] (hlow _ _) rfl rfl rfl
  ·rw [if_neg e2] at hS
   obtain ⟨g1,g2⟩:=hT.cut h1 (by rw [htf];exact e1)
   unfold jcu GFrame.pl at e2
   unfold GFrame.pl at hin hb0 ha0
   (refine S ?_;try exact True.intro)
   (repeat' (first|refine jaa fun K hK=>?_|refine wkA ?_|(with_reducible refine gR 2 ?_);refine dE 2 [0,1,2,3,4,5,6,7,8,9,10,11] mixed ?_|(with_reducible refine gR 5 ?_);refine dE 5 [0,1,2,3,4,5,6,7,8,9,10,11,12,13] mixed ?_|(with_reducible refine gR 6 ?_);refine dE 6 [0,1,2,3,4,5,6,7,8,9,10,11] mixed ?_|(with_reducible refine gR 7 ?_);refine dE 7 [0,1,2,3,4,5,6,7,8,9,10,11,12,13,14] mixed ?_|(refine hK _ _ ?_;clear hK K)|(refine jad (fun hc=>?_) (fun hc=>?_)<;>first | contradiction | (exfalso;omega) | skip)|refine alF 5 ?_|refine wkB ?_|exact True.intro|(clear hK K)))
   all_goals
    refine hKr _ _ (jzp (R0:=R) (R':=T.cut) T.cut [(4,.var 29 (jah p))] 5 (.var 92 (jba (nth (nth T.frs (T.nf - 1)).path ((nth T.frs (T.nf - 1)).path.length - 1)))) ⟨g1,?_⟩ (by show T.cut.left < T.left;omega)
     (congrArg (Hp.mk B) (RS.e_cut (tl:=[(4,.var 29 (jah p)),(5,.var 92 (jba (nth (nth T.frs (T.nf - 1)).path ((nth T.frs (T.nf - 1)).path.length - 1))))]) hk hjp e1 rfl fun j=>rfl)) hB rfl (by omega) rfl rfl rfl (fun i r hi=>?_) (by simp [ids]))
    ·exact (jej _ _ _ g1 (by omega) (by omega)).trans hS
    ·simp only [jas] at hi
     split at hi
     ·cases hi;simp [Row.cells,go_sem]
     ·cases hi
theorem jnW {t:Int} (h:1≤t∧t≤4):jl7 (vZ t)=true:=by
 have:t=1∨t=2∨t=3∨t=4:=by omega
 rcases this with rfl | rfl | rfl | rfl<;>decide
theorem jy2 (slots:List GValue) (k:Int) {t:Int} (h:1≤t∧t≤4):(jes slots k t).ty=t∧jl7 (jes slots k t)=true:=by
 unfold jes
 split
 ·exact ⟨rfl,jnW h⟩
 split
 ·rename_i hh;exact ⟨hh.2,hh.1⟩
 ·exact ⟨rfl,jnW h⟩
theorem jnV {v:GValue} (hm:jl7 v=true):v.s.size≤40:=by
 unfold jl7 at hm
 split at hm
 ·have:v.s=sE:=by simpa using hm
  rw [this];decide
 split at hm
 ·simp only [Bool.and_eq_true,decide_eq_true_eq] at hm
  rw [hm.1];decide
 split at hm
 ·simp only [Bool.and_eq_true,decide_eq_true_eq] at hm
  omega
 split at hm
 ·simp only [Bool.and_eq_true,decide_eq_true_eq] at hm
  rw [hm.1];decide
 ·cases hm
def Told (r:GValue×Int) (T:Int):Prop:=(r.2=0∧r.1.ty=T∧jl7 r.1=true)∨((r.2=1∨r.2=2∨r.2=6)∧r.1=v0)
theorem Told.size {r:GValue×Int} {T:Int} (h:Told r T):r.1.s.size≤40:=by
 rcases h with ⟨_,_,h⟩ | ⟨_,h⟩
 ·exact jnV h
 ·rw [h];decide
theorem jiy (n:Int):Told (vI n,0) 1:=.inl ⟨rfl,rfl,rfl⟩
theorem jrQ (b:Bool):Told (vB b,0) 2:=.inl ⟨rfl,rfl,by cases b<;>decide⟩
theorem juC {s:ByteArray} (h:s.size≤40):Told (vT s,0) 3:=.inl ⟨rfl,rfl,by
 show jl7 ⟨3,0,s⟩=true
 unfold jl7
 simp only
 rw [if_neg (by decide),if_neg (by decide),if_pos trivial]
 simp;omega⟩
theorem jrR {t T:Int} (h:t=1∨t=2∨t=6):Told (v0,t) T:=.inr ⟨h,rfl⟩
theorem jdq {c:Prop} [Decidable c] {x y:GValue×Int} {T:Int} (h:c→Told x T) (k:¬ c→Told y T):Told (if c then x else y) T:=by
 split
 ·exact h (by assumption)
 ·exact k (by assumption)
theorem jtJ {s:ByteArray} (hs:s∈jfb) {a b:GValue} (h:jgS s a.ty b.ty≠0):Told (jp0 s a b) (jgS s a.ty b.ty):=by
 have he:a.ty=b.ty:=by
  unfold jgS at h
  split at h
  ·exact (h rfl).elim
  ·omega
 have h1:1≤a.ty∧a.ty≤4:=by
  unfold jgS at h
  rw [if_neg (by omega)] at h
  split at h
  ·split at h<;>first | omega | exact (h rfl).elim
  split at h
  ·split at h<;>first | omega | exact (h rfl).elim
  split at h
  ·split at h<;>first | omega | exact (h rfl).elim
  split at h
  ·split at h<;>first | omega | exact (h rfl).elim
  ·split at h<;>first | omega | exact (h rfl).elim
 unfold jp0
 rw [if_neg (by omega)]
 rcases (by omega:a.ty=1∨a.ty=2∨a.ty=3∨a.ty=4) with ta | ta | ta | ta<;>rw [← he,ta] at h ⊢<;>unfold jgS at h ⊢<;>simp only [jfb,List.mem_cons,List.not_mem_nil,or_false] at hs<;>rcases hs with rfl | rfl | rfl | rfl | rfl | rfl | rfl | rfl | rfl | rfl | rfl
 all_goals first | (exfalso;revert h;decide) | (simp (decide:=true) only [if_true,if_false,jj4])
 all_goals first | exact jiy _ | exact jrQ _ | exact jdq (fun _=>jrR (by omega)) (fun _=>jiy _) | exact jdq (fun _=>jrR (by omega)) (fun _=>juC (by rw [ByteArray.size_append];omega))
theorem joE {s:ByteArray} {a b:Int} (hs:s=(⟨#[124,124]⟩:ByteArray)∨s=(⟨#[38,38]⟩:ByteArray)) (h:jgS s a b≠0):jgS s a b=2∧a=2∧b=2:=by
 unfold jgS at h ⊢
 by_cases e:a=b
 ·rw [if_neg (fun h=>h e),if_pos hs] at h ⊢
  by_cases e2:a=2
  ·rw [if_pos e2];omega
  ·rw [if_neg e2] at h;exact (h rfl).elim
 ·rw [if_pos e] at h;exact (h rfl).elim
theorem jd2 {r:GValue×Int} {T U:Int} (h:Told r T) (hr:r.2≠0):Told (v0,r.2) U:=by
 rcases h with ⟨h,_⟩ | ⟨h,_⟩
 ·exact (hr h).elim
 ·exact .inr ⟨h,rfl⟩
theorem jkx {r:GValue×Int} {T:Int} (h:Told r T) (hr:r.2=0):r.1.ty=T∧jl7 r.1=true:=by
 rcases h with ⟨_,h⟩ | ⟨h,_⟩
 ·exact h
 ·omega
theorem jpr {v:GValue} (h:v.ty=1):Told (jhk (⟨#[45]⟩:ByteArray) v,0) 1:=by
 unfold jhk
 rw [if_pos ⟨rfl,h⟩]
 exact jiy _
theorem jps {v:GValue} (h:v.ty=2):Told (jhk (⟨#[33]⟩:ByteArray) v,0) 2:=by
 unfold jhk
 rw [if_neg (by rintro ⟨h,_⟩;revert h;decide),if_pos ⟨rfl,h⟩]
 exact jrQ _
theorem jhP {p:GProg} (h:POk p) (slots:List GValue) (heap:List (List Int)):∀ (n:Nat) (a:Int),0≤a→a < p.tree.nodes.length→a.toNat < n→isE (jak p.tree.nodes a)→Told (jbH p slots heap n a) (nth p.types a.toNat)
 | 0,a,_,_,hn,_=>by omega
 | n+1,a,h0,h1,hn,hk=>by
  have ih:=jhP h slots heap n
  have sh:=(h.tree.shape a.toNat (by omega))
  have ty:=h.ty a.toNat (by omega) (by omega)
  have kid:∀ i,i < (nth p.tree.nodes a.toNat).l.length→isE (jak p.tree.nodes (nth (nth p.tree.nodes a.toNat).l i))→Told (jbH p slots heap n (nth (nth p.tree.nodes a.toNat).l i)) (nth p.types (nth (nth p.tree.nodes a.toNat).l i).toNat):=fun i hi he=>by
   have:=sh.2.1 _ (jam hi)
   exact ih _ (by omega) (by omega) (by omega) he
  have hkr:(nth p.tree.nodes a.toNat).kind=1∨(nth p.tree.nodes a.toNat).kind=2∨(nth p.tree.nodes a.toNat).kind=3∨(nth p.tree.nodes a.toNat).kind=4∨(nth p.tree.nodes a.toNat).kind=5∨(nth p.tree.nodes a.toNat).kind=6∨(nth p.tree.nodes a.toNat).kind=7∨(nth p.tree.nodes a.toNat).kind=8∨(nth p.tree.nodes a.toNat).kind=9:=by
   have:isE (nth p.tree.nodes a.toNat).kind:=hk
   unfold isE at this
   omega
  unfold jbH
  simp only
  rcases hkr with k | k | k | k | k | k | k | k | k
  ·rw [if_pos k,ty.int k];exact jiy _
  ·rw [if_neg (by omega),if_pos k,ty.bool k];exact jrQ _
  ·rw [if_neg (by omega),if_neg (by omega),if_pos k,ty.text k]
   exact juC (by have:=sh.1.text k;omega)
  ·rw [if_neg (by omega),if_neg (by omega),if_neg (by omega),if_pos k]
   have:=jy2 slots (nth p.slots a.toNat) (ty.var k)
   exact .inl ⟨rfl,this⟩
  ·obtain ⟨x,hl,hx⟩:=sh.1.one (by omega)
   have hx':nth (nth p.tree.nodes a.toNat).l 0=x:=by rw [hl];rfl
   have kx:=kid 0 (by rw [hl];simp) (by rw [hx'];exact hx)
   have t5:=ty.index k
   rw [if_neg (by omega),if_neg (by omega),if_neg (by omega),if_neg (by omega)]
   refine jdq (fun hh=>jd2 kx hh) (fun hh=>?_)
   rw [if_pos k,t5.1]
   exact jdq (fun _=>jrR (by omega)) (fun _=>jiy _)
  ·obtain ⟨x,hl,hx⟩:=sh.1.one (by omega)
   have hx':nth (nth p.tree.nodes a.toNat).l 0=x:=by rw [hl];rfl
   have kx:=kid 0 (by rw [hl];simp) (by rw [hx'];exact hx)
   have t5:=ty.len k
   rw [if_neg (by omega),if_neg (by omega),if_neg (by omega),if_neg (by omega)]
   refine jdq (fun hh=>jd2 kx hh) (fun hh=>?_)
   rw [if_neg (by omega),if_neg (by omega),if_pos k,t5.1]
   exact jdq (fun _=>jiy _) (fun _=>jiy _)
  ·obtain ⟨x,hl,hx⟩:=sh.1.one (by omega)
   have hx':nth (nth p.tree.nodes a.toNat).l 0=x:=by rw [hl];rfl
   have kx:=kid 0 (by rw [hl];simp) (by rw [hx'];exact hx)
   have t5:=ty.neg k
   rw [if_neg (by omega),if_neg (by omega),if_neg (by omega),if_neg (by omega)]
   refine jdq (fun hh=>jd2 kx hh) (fun hh=>?_)
   rw [if_neg (by omega),if_neg (by omega),if_neg (by omega),if_pos k,t5.1]
   exact jpr ((jkx kx (by omega)).1.trans t5.2)
  ·obtain ⟨x,hl,hx⟩:=sh.1.one (by omega)
   have hx':nth (nth p.tree.nodes a.toNat).l 0=x:=by rw [hl];rfl
   have kx:=kid 0 (by rw [hl];simp) (by rw [hx'];exact hx)
   have t5:=ty.not k
   rw [if_neg (by omega),if_neg (by omega),if_neg (by omega),if_neg (by omega)]
   refine jdq (fun hh=>jd2 kx hh) (fun hh=>?_)
   rw [if_neg (by omega),if_neg (by omega),if_neg (by omega),if_neg (by omega),t5.1]
   exact jps ((jkx kx (by omega)).1.trans t5.2)
  ·obtain ⟨x,y,hl,hx,hy⟩:=sh.1.two (by omega)
   have hx':nth (nth p.tree.nodes a.toNat).l 0=x:=by rw [hl];rfl
   have hy':nth (nth p.tree.nodes a.toNat).l 1=y:=by rw [hl];rfl
   have kx:=kid 0 (by rw [hl];simp) (by rw [hx'];exact hx)
   have ky:=kid 1 (by rw [hl];simp) (by rw [hy'];exact hy)
   obtain ⟨t5,t6⟩:=ty.bin k
   rw [if_neg (by omega),if_neg (by omega),if_neg (by omega),if_neg (by omega)]
   refine jdq (fun hh=>jd2 kx hh) (fun hh=>?_)
   have ox:=jkx kx (by omega)
   rw [if_neg (by omega),if_pos k]
   refine jdq (fun he=>?_) (fun _=>?_)
   ·refine .inl ⟨rfl,?_,ox.2⟩
    show (jbH p slots heap n _).1.ty=_
    rw [ox.1]
    rw [t5] at t6 ⊢
    have hs:(nth p.tree.nodes a.toNat).name=(⟨#[124,124]⟩:ByteArray)∨(nth p.tree.nodes a.toNat).name=(⟨#[38,38]⟩:ByteArray):=by rcases he with he | he;exact .inl he.1;exact .inr he.1
    obtain ⟨g1,g2,g3⟩:=joE hs t6
    rw [g1,g2]
   refine jdq (fun hh2=>jd2 ky hh2) (fun hh2=>?_)
   have oy:=jkx ky (by omega)
   rw [t5] at t6 ⊢
   rw [← ox.1,← oy.1] at t6 ⊢
   exact jtJ (sh.1.sign k) t6
end Go.Proofs.YtdekkklnfifphaaGreatDoor
namespace Go.Gd
open Go
theorem RS.topF_upd {R:RS} (h:R.Ok) (h1:1≤R.nf) (f:GFrame):(R.upd (R.nf - 1) f).topF=f:=by
 show nth (R.upd (R.nf - 1) f).frs (R.nf - 1)=f
 rw [RS.nth_upd (by have:=h.nf;omega),if_pos rfl]
structure Kept (R R':RS):Prop where
 heap:R'.heap=R.heap
 in_:R'.in_=R.in_
 out_:R'.out_=R.out_
 trap:R'.trap=R.trap
 time:R'.time=R.time
theorem Kept.refl (R:RS):Kept R R:=⟨rfl,rfl,rfl,rfl,rfl⟩
theorem Kept.trans {a b c:RS} (h:Kept a b) (k:Kept b c):Kept a c:=⟨k.heap.trans h.heap,k.in_.trans h.in_,k.out_.trans h.out_,k.trap.trans h.trap,k.time.trans h.time⟩
theorem jgI (R:RS) (p:GProg) (v:GValue):Kept R (R.tells p v):=by
 unfold RS.tells
 split
 ·exact ⟨rfl,rfl,rfl,rfl,rfl⟩
 ·split<;>exact ⟨rfl,rfl,rfl,rfl,rfl⟩
theorem jdo (p:GProg):∀ (n:Nat) (R:RS),Kept R (jbM p n R)
 | 0,R=>Kept.refl R
 | n+1,R=>by
  unfold jbM
  split
  ·exact Kept.refl R
  split
  ·exact (jgI R p _).trans (jdo p n _)
  split
  ·exact Kept.refl R
  ·exact Kept.trans (b:=R.cut) ⟨rfl,rfl,rfl,rfl,rfl⟩ (jdo p n _)
theorem RS.of_ok (s:GState):(RS.of s).Ok:=⟨Nat.le_refl _,by show (s.frames.map _).length=_;simp [RS.of]⟩
theorem RS.of_st (s:GState):(RS.of s).st=s:=by
 show GState.mk (s.frames.take s.frames.length) s.heap s.in_ s.out_ s.status s.trap s.time=s
 rw [List.take_length]
end Go.Gd
namespace Go.Proofs.YtdekkklnfifphaaGreatDoor
open Go Go.Gd
theorem InvR.upd {p:GProg} {R:RS} (h:InvR p R) (h1:1≤R.nf) {f:GFrame} (hf:FrOk p f):InvR p (R.upd (R.nf - 1) f):=by
 have hnf:=h.ok.nf
 have hu:=fun k=>RS.nth_upd (R:=R) (k:=R.nf - 1) (by omega) f k
 have hl:(R.upd (R.nf - 1) f).frs.length=R.frs.length:=RS.upd_len.symm
 refine ⟨⟨by rw [hl];exact hnf,by rw [hl];exact h.ok.jp⟩,by rw [hl];exact h.frs,fun k hk=>?_,fun k hk=>?_,h.go⟩
 ·rw [hu];split
  ·exact hf
  ·exact h.fr k hk
 ·have hk:k+1 < R.nf:=hk
  rw [hu,if_neg (by omega)];exact h.busy k hk
theorem InvR.on {p:GProg} {R:RS} (h:InvR p R) (h1:1≤R.nf) (hb:jpK p R.topF):InvR p R.on:=h.upd h1 (jn2 (h.fr (R.nf - 1) (by omega)) hb)
theorem jtf {α:Type} [Inhabited α] (l:List α) (x:α) (k:Nat) (h:k≤l.length):nth (l++[x]) k=if k=l.length then x else nth l k:=by
 by_cases e:k=l.length
 ·subst e;rw [if_pos rfl,jc8]
 ·rw [if_neg e,jbz (by omega)]
theorem InvR.push {p:GProg} {R:RS} (h:InvR p R) (hfull:R.nf=R.frs.length) (h8:R.nf < 8) (hb:1≤R.nf→jpK p R.topF) {f:GFrame} (hf:FrOk p f):InvR p (R.push f):=by
 have hu:∀ k,k≤R.nf→nth (R.push f).frs k=if k=R.nf then f else nth R.frs k:=fun k hk=>by
  show nth (R.frs++[f]) k=_
  rw [jtf _ _ _ (by omega),hfull]
 have hjp:=h.ok.jp
 refine ⟨⟨by show R.nf+1≤(R.frs++[f]).length;simp;omega,by show (R.jp++[[]]).length=(R.frs++[f]).length;simp;omega⟩,by show (R.frs++[f]).length≤8;simp;omega,fun k hk=>?_,fun k hk=>?_,fun _=>by show 1≤R.nf+1;omega⟩
 ·have hk:k < R.nf+1:=hk
  rw [hu k (by omega)]
  split
  ·exact hf
  ·exact h.fr k (by omega)
 ·have hk:k+1 < R.nf+1:=hk
  rw [hu k (by omega),if_neg (by omega)]
  by_cases e:k+1=R.nf
  ·have:=hb (by omega)
   unfold RS.topF at this
   rwa [show R.nf - 1=k by omega] at this
  ·exact h.busy k (by omega)
theorem jkQ {p:GProg} {f:GFrame} (h:FrOk p f) {b:Int} (hp:PlOk p f.fn ⟨b,0⟩) (hd:∀ x∈f.path,b < x.block):FrOk p { f with path:=f.path++[⟨b,0⟩] }:=by
 refine ⟨h.f0,h.f1,h.sl,fun x hx=>?_,?_⟩
 ·rcases List.mem_append.1 hx with hx | hx
  ·exact h.pl x hx
  ·have:x=⟨b,0⟩:=by simpa using hx
   subst this;exact hp
 ·show List.Pairwise _ ((f.path++[(⟨b,0⟩:GPlace)]).map fun x:GPlace=>x.block)
  rw [List.map_append,List.pairwise_append]
  refine ⟨h.dec,by simp,fun x hx y hy=>?_⟩
  obtain ⟨z,hz,rfl⟩:=List.mem_map.1 hx
  have:y=b:=by simpa using hy
  subst this;exact hd z hz
theorem FrOk.last {p:GProg} {f:GFrame} (h:FrOk p f) (hne:f.path≠[]):∀ x∈f.path,f.pl.block≤x.block:=fun x hx=>by
 obtain ⟨i,hi,rfl⟩:=List.getElem_of_mem hx
 have hl:=List.length_pos_iff.2 hne
 unfold GFrame.pl
 by_cases e:i=f.path.length - 1
 ·subst e;rw [jbc (by omega)];exact Int.le_refl _
 ·have:=List.pairwise_iff_getElem.1 (List.pairwise_map.1 h.dec) i (f.path.length - 1) hi (by omega) (by omega)
  rw [jbc (by omega)];omega
theorem jhV {p:GProg} (h:SOk p) {k:Nat} (hk:k < p.tree.fns.length) {args:List GValue} (ha:args.length=(nth p.tree.fns k).params.length):FrOk p (jbP p k args)∧(nth p.size k).toNat=(jbP p k args).slots.length∧0≤nth p.size k∧nth p.size k≤24:=by
 have hs:=h.fns k hk
 have h1:=hs.par
 have h2:=hs.hi
 have hb:=h.ok.tree.body (nth p.tree.fns k) (jam hk)
 have hn:=jcM h.ok.tree hk
 have hl:(jbP p k args).slots.length=(nth p.size k).toNat:=by
  show (args++List.replicate _ v0).length=_
  rw [Int.toNat_natCast]<;>(try simp)<;>omega
 have hch:=hs.chain.le
 refine ⟨⟨by show (0:Int)≤(k:Int);omega,by show (k:Int) < _;omega,?_,fun x hx=>?_,by simp [jbP]⟩,hl.symm,by omega,h2⟩
 ·rw [hl];show _=nth p.size (k:Int).toNat;rw [Int.toNat_natCast];omega
 ·have:x=⟨(nth p.tree.fns k).body,0⟩:=by simpa [jbP] using hx
  subst this
  show PlOk p (k:Int) _
  refine ⟨hn.1,?_,?_,hb,Int.le_refl _,by show (0:Int)≤_;omega⟩
  ·rw [Int.toNat_natCast];exact hch
  ·rw [Int.toNat_natCast];exact Nat.le_refl _
theorem jmx {α:Type} [Inhabited α] (f:α→ByteArray) (nm:ByteArray):∀ (l:List α) (i:Int),(∃ v∈l,f v=nm)→i≤jcQ f nm l i∧jcQ f nm l i < i+l.length∧f (nth l (jcQ f nm l i - i).toNat)=nm
 | [],_,h=>by obtain ⟨v,hv,_⟩:=h;simp at hv
 | v::l,i,h=>by
  unfold jcQ
  by_cases hv:f v=nm
  ·rw [if_pos hv]
   refine ⟨Int.le_refl _,by simp;omega,?_⟩
   rw [show (i - i).toNat=0 by omega];exact hv
  ·rw [if_neg hv]
   obtain ⟨u,hu,hh⟩:=h
   have hu:u∈l:=by
    rcases List.mem_cons.1 hu with rfl | hu
    ·exact (hv hh).elim
    ·exact hu
   obtain ⟨a,b,c⟩:=jmx f nm l (i+1) ⟨u,hu,hh⟩
   refine ⟨by omega,by simp;omega,?_⟩
   rw [show (jcQ f nm l (i+1) - i).toNat=(jcQ f nm l (i+1) - (i+1)).toNat+1 by omega]
   exact c
theorem jqu {α:Type} (f:α→ByteArray) (nm:ByteArray):∀ (l:List α) (i k:Int),jdn f nm l i k≠k→∃ v∈l,f v=nm
 | [],_,_,h=>(h rfl).elim
 | v::l,i,k,h=>by
  unfold jdn at h
  by_cases hv:f v=nm
  ·exact ⟨v,by simp,hv⟩
  ·rw [if_neg hv] at h
   obtain ⟨u,hu,hh⟩:=jqu f nm l _ _ h
   exact ⟨u,by simp [hu],hh⟩
structure Callee (p:GProg) (a:Int) (k:Nat):Prop where
 lt:k < p.tree.fns.length
 at_:jcQ GFunc.name (jaj p a).name p.tree.fns 0=k
 last:jdn GFunc.name (jaj p a).name p.tree.fns 0 (-1)=k
 name:(nth p.tree.fns k).name=(jaj p a).name
 args:(jaj p a).l.length=(nth p.tree.fns k).params.length
 few:(jaj p a).l.length≤3
theorem callee {p:GProg} (h:SOk p) {a:Int} (h0:a.toNat < p.tree.nodes.length) (hk:(jaj p a).kind=21):∃ k,Callee p a k:=by
 obtain ⟨h1,h2⟩:=(h.ok.ty a.toNat (by omega) h0).call hk
 have hx:=jqu GFunc.name (jaj p a).name p.tree.fns 0 (-1) (by show jdn GFunc.name (nth p.tree.nodes a.toNat).name p.tree.fns 0 (-1)≠-1;omega)
 have e:=jkY GFunc.name (jaj p a).name p.tree.fns 0 (-1) (fun a b=>h.names.one a b) hx
 obtain ⟨f1,f2,f3⟩:=jmx GFunc.name (jaj p a).name p.tree.fns 0 hx
 refine ⟨(jcQ GFunc.name (jaj p a).name p.tree.fns 0).toNat,by omega,by omega,by omega,?_,?_,?_⟩
 ·rwa [Int.sub_zero] at f3
 ·unfold jaj at e ⊢;rw [← e];exact h2
 ·have hm:=(h.ok.tree.fn _ (jam (l:=p.tree.fns) (k:=(jcQ GFunc.name (jaj p a).name p.tree.fns 0).toNat) (by omega))).2
  unfold jaj at e hm ⊢;rw [← e] at hm;rw [h2];exact hm
structure Doing (p:GProg) (R:RS):Prop where
 inv:InvR p R
 full:R.nf=R.frs.length
 one:1≤R.nf
 top:jpK p R.topF
 jp:∀ k,k < R.frs.length→nth R.jp k=[]
 cells:jbB R.heap≤40
 outs:R.out_.length≤24
 in0:0≤R.in_
 in1:R.in_≤1000
theorem Doing.topE {p:GProg} {R:RS} (h:Doing p R):R.st.top=R.topF:=RS.top h.inv.ok h.one
theorem Doing.stAt {p:GProg} (hs:SOk p) {R:RS} (h:Doing p R):StAt p R.st:=by
 have h1:=h.one
 have h2:=h.full
 have h3:=h.inv.frs
 have hl:R.st.frames.length=R.nf:=by show (R.frs.take R.nf).length=_;simp;omega
 exact j29 hs (by omega) (by omega) (by rw [h.topE];exact h.inv.fr _ (by omega)) (by rw [h.topE];exact h.top)
theorem Doing.stmt {p:GProg} (hs:SOk p) {R:RS} (h:Doing p R):0≤atV p R.st∧(atV p R.st).toNat < p.tree.nodes.length∧isS (jak p.tree.nodes (atV p R.st))∧jeP p.tree R.topF.fn.toNat≤(atV p R.st).toNat∧(atV p R.st).toNat < R.topF.pl.block.toNat∧R.topF.pl.block.toNat≤(nth p.tree.fns R.topF.fn.toNat).body.toNat:=by
 have hf:=h.inv.fr (R.nf - 1) (by have:=h.one;omega)
 have hf:FrOk p R.topF:=hf
 have hx:=hf.pl _ (jij h.top.1)
 have hb:=h.top.2
 have ha0:=hx.a0
 have hb0:=hx.b0
 have hi:=hx.in_ hs hf.f0 hf.f1
 have hm:atV p R.st∈jcu p R.topF.pl.block:=by unfold atV;rw [h.topE];exact jam (by omega)
 obtain ⟨k0,k1,k2,k3⟩:=hx.kid hs hf.f0 hf.f1 hm
 exact ⟨k0,by omega,k3,k2,k1,hx.hi⟩
theorem jzZ {p:GProg} (h:SOk p) (R:RS) {a:Int} (h0:0≤a) (h1:a.toNat < p.tree.nodes.length) (hk:isE (jak p.tree.nodes a)):Told (R.val p a) (nth p.types a.toNat):=jhP h.ok R.topF.slots R.heap _ a h0 (by omega) (by omega) hk
theorem jnd {p:GProg} (R:RS):∀ (l:List Int) (a:List GValue),(R.args p l a).2=0→(R.args p l a).1.length=a.length+l.length
 | [],a,_=>by simp [RS.args]
 | x::l,a,h=>by
  unfold RS.args at h ⊢
  split
  ·rename_i e;rw [if_pos e] at h;exact (e h).elim
  ·rename_i e;rw [if_neg e] at h
   rw [jnd R l _ h];simp;omega
theorem j1q (l:List Int):jhm 0 l=l.length:=by simp [jhm]
theorem ja9:∀ (h:List (List Int)) (n:Int),h.foldl jhm n=n+h.foldl jhm (0:Int)
 | [],n=>by simp [List.foldl]
 | x::h,n=>by
  simp only [List.foldl_cons]
  rw [ja9 h (jhm n x),ja9 h (jhm 0 x)];unfold jhm;omega
theorem joH (h:List (List Int)) (x:List Int):jbB (h++[x])=jbB h+x.length+1:=by
 unfold jbB
 rw [List.foldl_append,List.foldl_cons,List.foldl_nil,List.length_append,ja9 h _,ja9 h (h.length:Int)]
 unfold jhm;simp;omega
theorem jhU:∀ (h:List (List Int)),0≤h.foldl jhm (0:Int)
 | []=>by simp
 | x::h=>by
  simp only [List.foldl_cons]
  rw [ja9,j1q];have:=jhU h;omega
theorem jbm (h:List (List Int)):(h.length:Int)≤jbB h:=by
 unfold jbB;rw [ja9];have:=jhU h;omega
theorem jnv:∀ (h:List (List Int)) (i:Nat) (x:List Int),i < h.length→x.length=(nth h i).length→(h.set i x).foldl jhm (0:Int)=h.foldl jhm 0
 | [],i,x,hi,_=>by simp at hi
 | y::h,0,x,_,e=>by
  have e:x.length=y.length:=e
  simp only [List.set_cons_zero,List.foldl_cons,jhm,e]
 | y::h,i+1,x,hi,e=>by
  simp only [List.set_cons_succ,List.foldl_cons]
  rw [ja9 (h.set i x) (jhm 0 y),ja9 h (jhm 0 y),jnv h i x (by simpa using hi) e]
theorem jp3 (h:List (List Int)) (i:Nat) (x:List Int) (hi:i < h.length) (e:x.length=(nth h i).length):jbB (h.set i x)=jbB h:=by
 unfold jbB
 rw [List.length_set,ja9 (h.set i x) (h.length:Int),ja9 h (h.length:Int),jnv h i x hi e]
theorem jkO:∀ (h:List (List Int)) (i:Nat),i < h.length→((nth h i).length:Int)≤h.foldl jhm 0
 | [],i,hi=>by simp at hi
 | y::h,0,_=>by
  simp only [List.foldl_cons]
  rw [ja9,j1q];have:=jhU h;show (y.length:Int)≤_;omega
 | y::h,i+1,hi=>by
  simp only [List.foldl_cons]
  rw [ja9,j1q];have:=jkO h i (by simpa using hi);show ((nth h i).length:Int)≤_;omega
theorem jeA (h:List (List Int)) (i:Nat) (hi:i < h.length):((nth h i).length:Int)+h.length≤jbB h:=by
 unfold jbB;rw [ja9];have:=jkO h i hi;omega
structure After (p:GProg) (R:RS):Prop where
 inv:InvR p R
 cells:jbB R.heap≤40
 outs:R.out_.length≤24
 in0:0≤R.in_
 in1:R.in_≤1000
theorem After.of {p:GProg} {R R':RS} (h:Doing p R) (hi:InvR p R') (k:Kept R R'):After p R':=⟨hi,by rw [k.heap];exact h.cells,by rw [k.out_];exact h.outs,by rw [k.in_];exact h.in0,by rw [k.in_];exact h.in1⟩
theorem Doing.with {p:GProg} {R:RS} (h:Doing p R) {hp:List (List Int)} {i:Int} {o:List ByteArray} (h1:jbB hp≤40) (h2:0≤i∧i≤1000) (h3:o.length≤24):Doing p { R with heap:=hp,in_:=i,out_:=o }:=
 ⟨⟨⟨h.inv.ok.nf,h.inv.ok.jp⟩,h.inv.frs,h.inv.fr,h.inv.busy,h.inv.go⟩,h.full,h.one,h.top,h.jp,h1,h3,h2.1,h2.2⟩
theorem Doing.store {p:GProg} {R:RS} (h:Doing p R) (node:Int) (v:GValue):After p (R.store p node v):=by
 have h1:=h.one
 have hf:=juw (h.inv.fr (R.nf - 1) (by omega)) (nth p.slots node.toNat).toNat v
 have hi:InvR p (R.setS p node v):=h.inv.upd h1 hf
 have ht:(R.setS p node v).topF=_:=RS.topF_upd h.inv.ok h1 _
 have hb:jpK p (R.setS p node v).topF:=by rw [ht];exact h.top
 exact After.of h (hi.on h1 hb) ⟨rfl,rfl,rfl,rfl,rfl⟩
theorem Doing.on {p:GProg} {R:RS} (h:Doing p R):After p R.on:=After.of h (h.inv.on h.one h.top) ⟨rfl,rfl,rfl,rfl,rfl⟩
theorem Doing.block {p:GProg} (hs:SOk p) {R:RS} (h:Doing p R) {b:Int} (hb:b∈(jaj p (atV p R.st)).l) (hk:jak p.tree.nodes b=18):PlOk p R.topF.fn ⟨b,0⟩∧b < R.topF.pl.block∧0≤b∧b.toNat < p.tree.nodes.length:=by
 obtain ⟨s0,s1,s2,s3,s4,s5⟩:=h.stmt hs
 have sh:=hs.ok.tree.shape _ s1
 have hbl:=sh.2.1 b hb
 have hf:FrOk p R.topF:=h.inv.fr (R.nf - 1) (by have:=h.one;omega)
 have hlo:jeP p.tree R.topF.fn.toNat≤b.toNat:=by
  have hc:=(hs.fns R.topF.fn.toNat (by have:=hf.f0;have:=hf.f1;omega)).chain
  exact hc.closed _ s3 (by omega) b hb
 exact ⟨⟨hbl.1,hlo,by show b.toNat≤_;omega,hk,Int.le_refl _,by show (0:Int)≤_;omega⟩,by omega,hbl.1,by omega⟩
theorem Doing.deeper {p:GProg} (hs:SOk p) {R R':RS} (h:Doing p R) {b:Int} (hb:b∈(jaj p (atV p R.st)).l) (hk:jak p.tree.nodes b=18) (hR:R'=R∨R'=R.on):After p (R'.deeper b):=by
 have h1:=h.one
 obtain ⟨b1,b2,b3,b4⟩:=h.block hs hb hk
 have hf:FrOk p R.topF:=h.inv.fr (R.nf - 1) (by omega)
 rcases hR with rfl | rfl
 ·exact After.of h (h.inv.upd h1 (jkQ hf b1 fun x hx=>by have:=hf.last h.top.1 x hx;omega)) ⟨rfl,rfl,rfl,rfl,rfl⟩
 ·have hi:=h.inv.on h1 h.top
  have ht:R.on.topF=onF R.topF:=RS.topF_upd h.inv.ok h1 _
  have hf':=jn2 hf h.top
  have hl:∀ x∈(onF R.topF).path,b < x.block:=fun x hx=>by
   rcases jea hx with rfl | hx
   ·exact b2
   ·have:=hf.last h.top.1 x hx;omega
  refine After.of h (hi.upd h1 (f:={ R.on.topF with path:=R.on.topF.path++[⟨b,0⟩] }) ?_) ⟨rfl,rfl,rfl,rfl,rfl⟩
  rw [ht]
  exact jkQ hf' b1 hl
theorem Doing.call {p:GProg} (hs:SOk p) {R:RS} (h:Doing p R) {a:Int} (h0:a.toNat < p.tree.nodes.length) (hk:(jaj p a).kind=21) (he:(R.call p a).2=0):After p (R.call p a).1:=by
 obtain ⟨k,hc⟩:=callee hs h0 hk
 unfold RS.call at he ⊢
 simp only at he ⊢
 split at he
 ·rename_i e;exact (e he).elim
 rename_i e
 rw [if_neg e]
 split at he
 ·exact ((by decide:¬((3:Int)=0)) he).elim
 rename_i e8
 rw [if_neg e8,hc.at_]
 have hl:=jnd R _ [] (Classical.not_not.1 e)
 exact After.of h (h.inv.push h.full (by omega) (fun _=>h.top) (jhV hs hc.lt (by rw [hl];simpa using hc.args)).1) ⟨rfl,rfl,rfl,rfl,rfl⟩
theorem Doing.fresh {p:GProg} {R:RS} (h:Doing p R) (x:Int) (he:(R.fresh p x).2.2=0):Doing p (R.fresh p x).1:=by
 unfold RS.fresh at he ⊢
 simp only at he ⊢
 split at he
 ·rename_i e;exact (e he).elim
 rename_i e
 rw [if_neg e]
 split at he
 ·exact ((by decide:¬((7:Int)=0)) he).elim
 rename_i e1
 rw [if_neg e1]
 split at he
 ·exact ((by decide:¬((4:Int)=0)) he).elim
 rename_i e2
 rw [if_neg e2]
 refine h.with (hp:=R.heap++[List.replicate _ 0]) (i:=R.in_) (o:=R.out_) ?_ ⟨h.in0,h.in1⟩ h.outs
 rw [joH];simp;omega
theorem Doing.does {p:GProg} (hs:SOk p) {R:RS} (h:Doing p R) {inp:List Int} (hn:inp.length≤1000) (hw:¬ jeX p R.st (atV p R.st) inp) (he:(R.does p (atV p R.st) inp).2=0):After p (R.does p (atV p R.st) inp).1:=by
 obtain ⟨s0,s1,s2,_⟩:=h.stmt hs
 have sh:=(hs.ok.tree.shape _ s1)
 generalize hnode:atV p R.st=node at *
 have kid:∀ i,i < (jaj p node).l.length→0≤nth (jaj p node).l i∧(nth (jaj p node).l i).toNat < p.tree.nodes.length:=fun i hi=>by
  have:=sh.2.1 _ (jam (l:=(jaj p node).l) hi);omega
 have hblk:∀ b,b∈(jaj p node).l→jak p.tree.nodes b=18→∀ R',(R'=R∨R'=R.on)→After p (R'.deeper b):=fun b hb hk R' hR=>h.deeper hs (by rw [hnode];exact hb) hk hR
 unfold RS.does at he ⊢
 simp only at he ⊢
 split at he
 ·rename_i e
  rw [if_pos e]
  obtain ⟨a,ha,hr⟩:=sh.1.right e
  have hla:(jaj p node).l=[a]:=ha
  have ha0:=kid 0 (by rw [hla];simp)
  have hx:nth (jaj p node).l 0=a:=by rw [hla];rfl
  rw [hx] at ha0
  unfold RS.right at he ⊢
  simp only [hx] at he ⊢
  split at he
  ·rename_i e1;rw [if_pos e1];exact h.call hs ha0.2 e1 he
  rename_i e1;rw [if_neg e1]
  split at he
  ·rename_i e2;rw [if_pos e2]
   have hin:¬ ((inp.length:Int)≤R.in_):=fun hle=>hw ⟨e,by rw [hx];exact e2,hle⟩
   have hd:Doing p { R with in_:=R.in_+1 }:=h.with (hp:=R.heap) (i:=R.in_+1) (o:=R.out_) h.cells ⟨by have:=h.in0;omega,by omega⟩ h.outs
   exact hd.store node _
  rename_i e2;rw [if_neg e2]
  split at he
  ·rename_i e3;rw [if_pos e3]
   split at he
   ·rename_i e4;rw [if_pos e4]
    exact (h.fresh a e4).store node _
   ·rename_i e4;exact (e4 he).elim
  rename_i e3;rw [if_neg e3]
  split at he
  ·rename_i e4;rw [if_pos e4];exact h.store node _
  ·rename_i e4;exact (e4 he).elim
 rename_i e;rw [if_neg e]
 split at he
 ·rename_i e1;rw [if_pos e1]
  obtain ⟨a,ha,hr⟩:=sh.1.do_ e1
  have hla:(jaj p node).l=[a]:=ha
  have ha0:=kid 0 (by rw [hla];simp)
  have hx:nth (jaj p node).l 0=a:=by rw [hla];rfl
  rw [hx] at ha0 he ⊢
  exact h.call hs ha0.2 hr he
 rename_i e1;rw [if_neg e1]
 split at he
 ·rename_i e2;rw [if_pos e2]
  unfold RS.put at he ⊢
  simp only at he ⊢
  split at he
  ·rename_i e3;exact (e3 he).elim
  rename_i e3;rw [if_neg e3]
  split at he
  ·rename_i e4;exact (e4 he).elim
  rename_i e4;rw [if_neg e4]
  split at he
  ·exact ((by decide:¬((2:Int)=0)) he).elim
  rename_i e5;rw [if_neg e5]
  have hg:(jc7 R.heap (jes R.topF.slots (nth p.slots node.toNat) 4)).length≠0:=by omega
  generalize hv:jes R.topF.slots (nth p.slots node.toNat) 4=v at *
  unfold jc7 at hg
  split at hg
  ·simp at hg
  rename_i e6
  exact (h.with (hp:=R.heap.set _ _) (i:=R.in_) (o:=R.out_) (by rw [jp3 _ _ _ (by omega) (by simp)];exact h.cells) ⟨h.in0,h.in1⟩ h.outs).on
 rename_i e2;rw [if_neg e2]
 split at he
 ·rename_i e3;rw [if_pos e3]
  split at he
  ·rename_i e4;rw [if_pos e4]
   exact After.of h (h.inv.tells h.one v0).1 (jgI R p v0)
  rename_i e4;rw [if_neg e4]
  split at he
  ·rename_i e5;exact (e5 he).elim
  rename_i e5;rw [if_neg e5]
  exact After.of h (h.inv.tells h.one _).1 (jgI R p _)
 rename_i e3;rw [if_neg e3]
 split at he
 ·rename_i e4;exact (e4 he).elim
 rename_i e4;rw [if_neg e4]
 split at he
 ·rename_i e5;rw [if_pos e5]
  split at he
  ·exact ((by decide:¬((5:Int)=0)) he).elim
  rename_i e6;rw [if_neg e6]
  exact (h.with (hp:=R.heap) (i:=R.in_) (o:=R.out_++[_]) h.cells ⟨h.in0,h.in1⟩ (by simp;omega)).on
 rename_i e5;rw [if_neg e5]
 split at he
 ·rename_i e6;rw [if_pos e6]
  obtain ⟨a,b,h1,h2,hl⟩:=sh.1.if_ e6
  split
  ·refine hblk _ ?_ ?_ _ (.inr rfl)
   ·rcases hl with hl | ⟨d,hl,_⟩<;>(show nth (jaj p node).l 1∈(jaj p node).l;unfold jaj;rw [hl];simp [nth])
   ·rcases hl with hl | ⟨d,hl,_⟩<;>(unfold jaj;rw [hl];exact h2)
  split
  ·rename_i e8
   rcases hl with hl | ⟨d,hl,hd⟩
   ·exfalso;unfold jaj at e8;rw [hl] at e8;simp at e8
   ·refine hblk _ ?_ ?_ _ (.inr rfl)
    ·unfold jaj;rw [hl];simp [nth]
    ·unfold jaj;rw [hl];exact hd
  ·exact h.on
 rename_i e6;rw [if_neg e6]
 split at he
 ·rename_i e7;rw [if_pos e7]
  obtain ⟨a,b,hl,h1,h2⟩:=sh.1.while_ e7
  split
  ·refine hblk _ ?_ ?_ _ (.inl rfl)
   ·unfold jaj;rw [hl];simp [nth]
   ·unfold jaj;rw [hl];exact h2
  ·exact h.on
 ·rename_i e7
  exfalso
  have:isS (jaj p node).kind:=s2
  unfold isS at this;omega
theorem jdp {p:GProg}:∀ (n:Nat) (R:RS),InvR p R→R.left < n→InvR p (jbM p n R)∧((jbM p n R).status=2∨(1≤(jbM p n R).nf∧jpK p (jbM p n R).topF))
 | 0,R,_,h=>by omega
 | n+1,R,hI,hn=>by
  unfold jbM
  split
  ·rename_i e;exact ⟨hI,.inl e⟩
  rename_i e
  have hg:=hI.go e
  split
  ·obtain ⟨a,b,_⟩:=hI.tells hg (vZ (nth p.tree.fns R.topF.fn.toNat).ret)
   exact jdp n _ a (by omega)
  rename_i e1
  split
  ·rename_i e2;exact ⟨hI,.inr ⟨hg,fun h=>e1 (by rw [h];rfl),e2⟩⟩
  ·obtain ⟨a,b⟩:=hI.cut hg e1
   exact jdp n _ a (by omega)
structure StInv (p:GProg) (s:GState):Prop where
 inv:InvR p (RS.of s)
 top:s.status≠2→jpK p (RS.of s).topF
 cells:jbB s.heap≤40
 outs:s.out_.length≤24
 in0:0≤s.in_
 in1:s.in_≤1000
theorem jll {α:Type} [Inhabited α] (l:List α) (n k:Nat) (h:k < n):nth (l.take n) k=nth l k:=by
 unfold nth;rw [List.getD_eq_getElem?_getD,List.getElem?_take,if_pos h,List.getD_eq_getElem?_getD]
theorem jia {α:Type} [Inhabited α] {β:Type} (l:List β) (x:α) (k:Nat) (h:k < l.length):nth (l.map fun _=>x) k=x:=by
 rw [jbc (by simpa using h)];simp
theorem InvR.st {p:GProg} {R:RS} (h:InvR p R):InvR p (RS.of R.st):=by
 have hnf:=h.ok.nf
 have hl:(RS.of R.st).nf=R.nf:=by show (R.frs.take R.nf).length=_;simp;omega
 have hfr:∀ k,k < R.nf→nth (RS.of R.st).frs k=nth R.frs k:=fun k hk=>jll _ _ _ hk
 refine ⟨RS.of_ok _,?_,fun k hk=>?_,fun k hk=>?_,fun e=>?_⟩
 ·have:=h.frs;show (R.frs.take R.nf).length≤8;simp;omega
 ·rw [hl] at hk;rw [hfr k hk];exact h.fr k hk
 ·rw [hl] at hk;rw [hfr k (by omega)];exact h.busy k hk
 ·rw [hl];exact h.go e
theorem After.settled {p:GProg} {R:RS} (h:After p R):StInv p (R.settle p).st:=by
 obtain ⟨h1,h2⟩:=jdp (R.left+1) R h.inv (by omega)
 have k:=jdo p (R.left+1) R
 change InvR p (R.settle p) at h1
 change (R.settle p).status=2∨(1≤(R.settle p).nf∧jpK p (R.settle p).topF) at h2
 change Kept R (R.settle p) at k
 generalize R.settle p=T at *
 have hnf:=h1.ok.nf
 have hl:(RS.of T.st).nf=T.nf:=by show (T.frs.take T.nf).length=_;simp;omega
 refine ⟨h1.st,fun e=>?_,by show jbB T.heap≤40;rw [k.heap];exact h.cells,by show T.out_.length≤24;rw [k.out_];exact h.outs,by show 0≤T.in_;rw [k.in_];exact h.in0,by show T.in_≤1000;rw [k.in_];exact h.in1⟩
 rcases h2 with h2 | ⟨h2,h3⟩
 ·exact (e h2).elim
 ·unfold RS.topF at h3 ⊢
  rw [hl,show nth (RS.of T.st).frs (T.nf - 1)=nth T.frs (T.nf - 1) from jll _ _ _ (by omega)]
  exact h3
theorem StInv.doing {p:GProg} {s:GState} (h:StInv p s) (h2:s.status≠2) (c:Int) (hc:c≠2):Doing p (RS.of { s with status:=c }):=by
 have hg:=h.inv.go h2
 exact ⟨⟨⟨h.inv.ok.nf,h.inv.ok.jp⟩,h.inv.frs,h.inv.fr,h.inv.busy,fun _=>hg⟩,rfl,hg,h.top h2,fun k hk=>jia _ _ _ hk,h.cells,h.outs,h.in0,h.in1⟩
theorem StInv.with {p:GProg} {s:GState} (h:StInv p s) (h2:s.status≠2) (c t n:Int):StInv p { s with status:=c,trap:=t,time:=n }:=by
 have hg:=h.inv.go h2
 exact ⟨⟨⟨h.inv.ok.nf,h.inv.ok.jp⟩,h.inv.frs,h.inv.fr,h.inv.busy,fun _=>hg⟩,fun _=>h.top h2,h.cells,h.outs,h.in0,h.in1⟩
theorem jws {p:GProg} (hs:SOk p) {s:GState} (h:StInv p s) {inp:List Int} (hn:inp.length≤1000):StInv p (jeR p s inp):=by
 unfold jeR
 split
 ·exact h
 rename_i e
 have h2:¬ (s.status=2∨s.status=3):=fun hh=>e (by unfold jbp;rw [if_pos hh];decide)
 have e2:jbp p s=atV p s:=by unfold jbp;rw [if_neg h2]
 split
 ·exact h.with (fun hh=>h2 (.inl hh)) _ _ _
 rename_i ew
 simp only
 split
 ·exact h.with (fun hh=>h2 (.inl hh)) _ _ _
 rename_i et
 have hd:=h.doing (fun hh=>h2 (.inl hh)) 0 (by decide)
 have hst:(RS.of { s with status:=0 }).st={ s with status:=0 }:=RS.of_st _
 have hat:atV p (RS.of { s with status:=0 }).st=jbp p s:=by rw [hst,e2];rfl
 have ha:=hd.does hs hn (by rw [hat];rw [hst];exact ew) (by rw [hat];exact Classical.not_not.1 et)
 rw [hat] at ha
 exact After.settled ⟨⟨⟨ha.inv.ok.nf,ha.inv.ok.jp⟩,ha.inv.frs,ha.inv.fr,ha.inv.busy,ha.inv.go⟩,ha.cells,ha.outs,ha.in0,ha.in1⟩
end Go.Proofs.YtdekkklnfifphaaGreatDoor
