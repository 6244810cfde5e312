/- What a program means: a call that begins. What a program means: what is told of a let, or a set. What a program means: a statement. No conditions. -/
import Derived.Test.YtfkgcobaheegbaaGreatDoorSo6
set_option linter.all false
namespace Go.Gd
open Go
theorem RS.perm_push {t:TypeId} {pre post:List AV} {R:RS} {p:GProg} {fn:Int} {args:List GValue} {tl tl0:List (Nat×Row)} {c0:List AV} {fr:Nat→List AV} (hok:R.Ok) (hf:R.nf=R.frs.length) (hc:c0=pre++(R.push (jbi p fn args)).c++post) (hfr:∀ k,k < R.frs.length+1→fr k=if k=R.frs.length then ju9 p fn args R.frs.length else R.fr k)
  (ht:∀ i,jas tl0 i=jas (tl++jtM p fn args R.frs.length) i) (hl:low tl) :
  ∀ i,jas ((0,.var t c0)::(1,.vec 57 3 (tab (R.frs.length+1) fr))::(2,.vec 22 1 (tab R.heap.length fun k=>[.rs (fid 2 k) (nth R.heap k).length 1 (nth R.heap k).length]))::(3,.vec 9 1 (R.out_.map eS))::fam 0 R.frs.length R.sl (fam 1 R.frs.length R.pt (fam 2 R.heap.length R.hp tl0))) i=jas ((R.push (jbi p fn args)).e t pre post tl) i:=by
 have hjp:=hok.jp
 have hlen:(R.push (jbi p fn args)).frs.length=R.frs.length+1:=by simp [RS.push]
 have hu:∀ k,k≤R.frs.length→nth (R.push (jbi p fn args)).frs k=if k=R.frs.length then jbi p fn args else nth R.frs k:=fun k hk=>by
  show nth (R.frs++[_]) k=_
  by_cases e:k=R.frs.length
  ·subst e;rw [if_pos rfl,jcL]
  ·rw [if_neg e,jbb (by omega)]
 have hv:∀ k,k≤R.frs.length→nth (R.push (jbi p fn args)).jp k=if k=R.frs.length then [] else nth R.jp k:=fun k hk=>by
  show nth (R.jp++[[]]) k=_
  by_cases e:k=R.frs.length
  ·rw [if_pos e,e,← hjp,jcL]
  ·rw [if_neg e,jbb (by omega)]
 refine jbp _ (by rw [hc]) (jbp _ ?_ (jbp _ rfl (jbp _ rfl fun i=>?_)))
 ·rw [jch (g:=(R.push (jbi p fn args)).fr) hlen.symm fun j hj=>?_]
  rw [hfr j hj]
  unfold RS.fr
  rw [hu j (by omega),hv j (by omega)]
  by_cases e:j=R.frs.length
  ·subst e;rw [if_pos rfl,if_pos rfl,if_pos rfl];rfl
  ·rw [if_neg e,if_neg e,if_neg e]
 ·rw [jaW 0 _ _ (fun i=>jaW 1 _ _ (fun i=>jaW 2 _ _ ht i) i) i]
  unfold jtM
  rw [jj2 (R.push (jbi p fn args)).sl (R.push (jbi p fn args)).pt (fun k hk=>?_) (fun k hk=>?_) ?_ ?_ hl,hlen]
  ·rfl
  ·unfold RS.sl;rw [hu _ (Nat.le_refl _),if_pos rfl]
  ·unfold RS.pt;rw [hu _ (Nat.le_refl _),hv _ (Nat.le_refl _),if_pos rfl,if_pos rfl];rfl
  ·unfold RS.sl;rw [hu k (by omega),if_neg (by omega)]
  ·unfold RS.pt;rw [hu k (by omega),hv k (by omega),if_neg (by omega),if_neg (by omega)]
attribute [go_sem] jtM ju9
theorem jyH {P:Program} {c:Code} {Q:Exit→List AV→Hp→Prop} {F:List AV} {H:Hp} {t t':TypeId} {pre post pre' post':List AV} {R R':RS} {B:List Nat} (L:List Nat) (J:List (Nat×AV)) (tl:List (Nat×Row)) (h00:(L.any fun i=>(jas tl i).isSome)=true) (hL:L.all (fun i=>decide (4≤i∧i < 1000))=true) (hH:H=⟨B,R'.e t' pre' post' tl⟩) (hB:ids (R.e t pre post [])=B) (hp:jaB noQ pre'=true) (hq:jaB noQ post'=true)
  (hs:jek (fun i=>L.contains i) tl) (hv:VToL (fun i=>L.contains i) H F (jjB J F)) (h:AWP P c Q (jjB J F) ⟨B,R'.e t' pre' post' (ja9 (fun i=>L.contains i) tl)⟩):AWP P c Q F H:=j1n L tl h00 hL hH hB hp hq hs hv h
end Go.Gd
namespace Go.Proofs.YtfkgcobaheegbaaGreatDoor
open Go Go.Gd
set_option maxHeartbeats 4000000
set_option maxRecDepth 10000
theorem jl7 {p:GProg} (R:RS):∀ (l:List Int) (a:List GValue) (k:Nat),k≤l.length→(∀ j,j < k→(R.val p (nth l j)).2=0)→R.args p l a=R.args p (l.drop k) (a++(l.take k).map fun x=>(R.val p x).1)
 | l,a,0,_,_=>by simp
 | [],a,k+1,h,_=>by simp at h
 | x::l,a,k+1,h,h0=>by
  have e0:(R.val p x).2=0:=h0 0 (by omega)
  conv=>lhs;unfold RS.args
  rw [if_neg (fun h=>h e0),jl7 R l _ k (by simpa using h) fun j hj=>h0 (j+1) (by omega)]
  simp
theorem jkR (R:RS) (p:GProg) (x:Int) (l:List Int) (a:List GValue):R.args p (x::l) a=if (R.val p x).2≠0 then (a,(R.val p x).2) else R.args p l (a++[(R.val p x).1]):=by conv=>lhs;unfold RS.args
theorem jnc (R:RS) (p:GProg) (a:List GValue):R.args p [] a=(a,0):=by unfold RS.args;rfl
theorem jpC {p:GProg} (h:SOk p) (R:RS) (hd:Doing p R) (a:Int) (h0:0≤a) (hl:a.toNat < p.tree.nodes.length) (hk:(jak p a).kind=21) :
  ACalls Tryz.prog 117 [.agg (jam p),.pt 0 0 0 0,rI a] (R.e 39 [] [] []) (fun r l=>r=rI (R.call p a).2∧l=(R.call p a).1.e 39 [] [] []):=by
 have hok:=hd.inv.ok
 have hnf:=hok.nf
 have h1:=hd.one
 have hfr:=hd.inv.frs
 have hcl:=jaO R.heap
 have hcc:=hd.cells
 have hfull:=hd.full
 obtain ⟨k,hcal⟩:=callee h hl hk
 have hshape:=(h.ok.tree.shape a.toNat hl)
 have hkids:=hshape.1.call hk
 have hlt:=hshape.2.1
 have hfew:(nth p.tree.nodes a.toNat).l.length≤3:=hcal.few
 have hv:∀ j,j < (nth p.tree.nodes a.toNat).l.length→ACalls Tryz.prog 119 [.agg (jam p),.pt 0 0 0 0,rI (nth (nth p.tree.nodes a.toNat).l j)] (R.e 39 [] [] []) (fun r l=>r=.tup [rV (R.val p (nth (nth p.tree.nodes a.toNat).l j)).1,rI (R.val p (nth (nth p.tree.nodes a.toNat).l j)).2]∧l=R.e 39 [] [] []):=fun j hj=>by
  have hm:=jaP hj
  have hb:=hlt _ hm
  exact jc9 h R hok h1 (by omega) (by omega) _ hb.1 (by omega) (hkids _ hm)
 generalize hL:(nth p.tree.nodes a.toNat).l=L at *
 suffices key:∀ (R':RS) (tr:Int),(R',tr)=R.call p a→ACalls Tryz.prog 117 [.agg (jam p),.pt 0 0 0 0,rI a] (R.e 39 [] [] []) (fun r l=>r=rI tr∧l=R'.e 39 [] [] []) from key _ _ rfl
 intro R' tr hR'
 unfold RS.call at hR'
 rw [show (jak p a).l=L from hL] at hR'
 refine jaw Tryz.func117 Tryz.ntmps117 ?_
 generalize hB:ids (R.e 39 [] [] [])=B
 generalize hE:R'.e 39 [] [] []=E
 (refine S ?_;try exact True.intro)
 (have W:=hL;repeat' (first|refine jaa fun K hK=>?_|refine wkA ?_|(refine hK _ _ ?_;clear hK K)|(refine jad (fun hc=>?_) (fun hc=>?_)<;>first | contradiction | (exfalso;omega) | skip)|refine bxF 4 ?_|refine alF 5 ?_|refine jnH 6 ?_|refine wkB ?_|exact True.intro|(clear hK K)));all_goals (try clear W)
 have hKo:=hK;clear hK
 have hta:∀ k,k≤L.length→((L.take k).map fun x=>(R.val p x).1).length=k:=fun k hk=>by simp;omega
 refine jah (S:=Nat) [(6,1),(8,4),(20,25)] (fun k=>k≤L.length∧∀ j,j < k→(R.val p (nth L j)).2=0) (fun k=>[(8,.rs 6 k 3 k),(9,rI k)])
  (fun k=>⟨B,R.e 39 [] [] [(4,.var 29 (jam p)),(5,.var 53 (jao (nth p.tree.nodes a.toNat))),(6,.vec 59 3 (((L.take k).map fun x=>(R.val p x).1).map jag))]⟩)
  (fun k=>L.length - k) 0 ⟨by omega,fun j hj=>by omega⟩ (jaE rfl lle) ?_
 rintro q ⟨hq,hq0⟩ Kr hKr
 have hlen:=hta q hq
 have hat:=jl7 (p:=p) R L [] q hq hq0
 rw [List.nil_append] at hat
 by_cases hqL:q < L.length
 ·have hvq:=hv q hqL
  have hdrop:L.drop q=nth L q::L.drop (q+1):=by rw [jbl hqL];exact List.drop_eq_getElem_cons hqL
  rw [hdrop,jkR] at hat
  generalize hX:R.val p (nth L q)=X at *
  by_cases hx0:X.2=0
  ·(refine S ?_;try exact True.intro)
   (have W:=And.intro hL (hlen);repeat' (first|refine jaa fun K hK=>?_|refine wkA ?_|(with_reducible refine gR 6 ?_);refine dL 6 [] [11] [0,1,2,3,4,5,6,7,8,9,10,11,12,13] mixed ?_|(refine hK _ _ ?_;clear hK K)|(refine jad (fun hc=>?_) (fun hc=>?_)<;>first | contradiction | (exfalso;omega) | skip)|refine alF 7 ?_|(refine cE (R:=R) (R':=R) (pre:=[]) (post:=[]) (pre':=[]) (post':=[]) hvq rfl (Nat.le_refl _) (Nat.le_refl _) rfl rfl jac rfl (by simp only [go_sem]) ?_;(refine S ?_;try exact True.intro))|refine wkB ?_|exact True.intro|(clear hK K)));all_goals (try clear W)
   have e6:((L.take (q+1)).map fun x=>(R.val p x).1).map jag=List.map jag (List.map (fun x=>(R.val p x).1) (L.take q))++[jag X.1]:=by
    rw [jgc hqL];simp [hX]
   refine hKr _ _ (jsu (R0:=R) (R':=R) (pre:=[]) (post:=[]) (pre':=[]) (post':=[]) (q+1) [(4,.var 29 (jam p)),(5,.var 53 (jao (nth p.tree.nodes a.toNat))),(6,.vec 59 3 (List.map jag (List.map (fun x=>(R.val p x).1) (L.take q))++[jag X.1]))] 7 (.var 59 (jag X.1)) ⟨by omega,fun j hj=>?_⟩ (by show L.length - (q+1) < L.length - q;omega) rfl hB ?_ (by omega) rfl rfl rfl (fun i r hi=>?_) (by simp [ids]))
   ·by_cases e:j < q
    ·exact hq0 j e
    ·rw [show j=q by omega,hX];exact hx0
   ·show Hp.mk B (R.e _ _ _ [_,_,(6,Row.vec _ _ _)])=_
    rw [e6]
   ·simp only [jas] at hi
    repeat' split at hi
    all_goals first
     | (cases hi;exact jgn _ _)
     | (cases hi;exact jdb _ _)
     | (cases hi;exact jdr (jir (jb7 _) (jqJ (by simp [go_sem]) (jn2 _))))
     | cases hi
  ·rw [if_pos hx0] at hat
   rw [hat] at hR'
   simp only at hR'
   rw [if_pos hx0] at hR'
   obtain ⟨rfl,rfl⟩:=Prod.mk.inj hR'
   (refine S ?_;try exact True.intro)
   (have W:=And.intro hL (hlen);repeat' (first|refine jaa fun K hK=>?_|refine wkA ?_|(with_reducible refine gR 6 ?_);refine dL 6 [] [11] [0,1,2,3,4,5,6,7,8,9,10,11,12,13] mixed ?_|(refine hK _ _ ?_;clear hK K)|(refine jad (fun hc=>?_) (fun hc=>?_)<;>first | contradiction | (exfalso;omega) | skip)|refine alF 7 ?_|(refine cE (R:=R') (R':=R') (pre:=[]) (post:=[]) (pre':=[]) (post':=[]) hvq rfl (Nat.le_refl _) (Nat.le_refl _) rfl rfl jac rfl (by simp only [go_sem]) ?_;(refine S ?_;try exact True.intro))|refine wkB ?_|exact True.intro|(clear hK K)));all_goals (try clear W)
   subst hE
   exact jb8 (R':=R') (pre':=[]) (post':=[]) rfl hB [.tmp 6] jac rfl rfl rfl
 ·have hqe:q=L.length:=by omega
  subst hqe
  rw [List.drop_length,List.take_length,jnc] at hat
  rw [List.take_length] at hlen
  rw [hat] at hR'
  simp only at hR'
  rw [if_neg (fun h=>h rfl),hcal.at_] at hR'
  generalize hA:L.map (fun x=>(R.val p x).1)=args at *
  by_cases h8:8≤R.nf
  ·rw [if_pos h8] at hR'
   obtain ⟨rfl,rfl⟩:=Prod.mk.inj hR'
   rw [List.take_length,hA]
   (refine S ?_;try exact True.intro)
   (have W:=And.intro hL (hlen);repeat' (first|refine jaa fun K hK=>?_|refine wkA ?_|(refine hK _ _ ?_;clear hK K)|(refine jad (fun hc=>?_) (fun hc=>?_)<;>first | contradiction | (exfalso;omega) | skip)|(refine hKo _ _ ?_)|refine wkB ?_|exact True.intro|(clear hK K)));all_goals (try clear W)
   subst hE
   exact jb8 (R':=R') (pre':=[]) (post':=[]) rfl hB [.tmp 6] jac rfl rfl rfl
  ·rw [if_neg h8] at hR'
   obtain ⟨rfl,rfl⟩:=Prod.mk.inj hR'
   rw [List.take_length,hA]
   (refine S ?_;try exact True.intro)
   (have W:=And.intro hL (hlen);repeat' (first|refine jaa fun K hK=>?_|refine wkA ?_|(refine hK _ _ ?_;clear hK K)|(refine jad (fun hc=>?_) (fun hc=>?_)<;>first | contradiction | (exfalso;omega) | skip)|(refine hKo _ _ ?_)|refine wkB ?_|exact True.intro|(clear hK K)));all_goals (try clear W)
   have hAl:L.length=args.length:=by rw [← hA];simp
   have hrow:VTo (fun i=>[6].contains i) ⟨B,R.e 39 [] [] [(4,.var 29 (jam p)),(5,.var 53 (jao (nth p.tree.nodes a.toNat))),(6,.vec 59 3 (args.map jag))]⟩ (.rs 6 L.length 3 L.length) (jal jag 3 args):=
    VTo.row args rfl (by show jas (R.e _ _ _ _) 6=_;rw [RS.getL 6 (by omega) (by omega)];rfl) hAl
   refine jyH (R:=R) (R':=R) (t:=39) (pre:=[]) (post:=[]) (t':=39) (pre':=[]) (post':=[]) [6] [(8,jal jag 3 args),(19,.any)] [(4,.var 29 (jam p)),(5,.var 53 (jao (nth p.tree.nodes a.toNat))),(6,.vec 59 3 (args.map jag))] rfl rfl rfl hB rfl rfl ?_ ?_ ?_
   ·refine ⟨.inr (jgn _ _),.inr (jdb _ _),.inl rfl,trivial⟩
   ·simp only [jjB,List.foldl_cons,List.foldl_nil,List.set_cons_zero,List.set_cons_succ,VToL]
    repeat' (first | exact True.intro | exact jm3 _ | exact hrow | exact .same _ rfl | exact .drop _ | refine And.intro ?_ ?_)
   have hKo:=hK;clear hK
   (refine S ?_;try exact True.intro)
   have hargs:args.length=(nth p.tree.fns k).params.length:=by rw [← hAl,← hL];exact hcal.args
   have hfc:=jnt h k hcal.lt args hargs R.frs.length
   have hnm:(nth p.tree.fns k).name=(nth p.tree.nodes a.toNat).name:=hcal.name
   have hklt:=hcal.lt
   have hfns:=h.ok.tree.fns
   refine jah (S:=Nat) [(6,1),(12,1),(51,31)] (fun i=>i≤k) (fun i=>[(12,rI i)]) (fun i=>⟨B,R.e 39 [] [] [(4,.var 29 (jam p)),(5,.var 53 (jao (nth p.tree.nodes a.toNat)))]⟩)
    (fun i=>k - i) 0 (by omega) (jaE rfl lle) ?_
   rintro i hi Ks hKs
   by_cases e:i=k
   ·subst e
    (refine S ?_;try exact True.intro)
    (have W:=And.intro hnm (hfull);repeat' (first|refine jaa fun K hK=>?_|refine wkA ?_|(with_reducible refine gR 15 ?_);refine dE 15 [0,1,2,3,4,5,6,7,8,9] mixed ?_|(with_reducible refine gR 16 ?_);refine dC 16 ([],[],[77,78]) [] [0,1,2,3,4,5,6,7,8,9,10,11,12,13] mixed ?_|(refine hK _ _ ?_;clear hK K)|(refine jad (fun hc=>?_) (fun hc=>?_)<;>first | contradiction | (exfalso;omega) | skip)|refine cN hfc ?_|refine jwQ 6 ?_|refine wkB ?_|exact True.intro|(clear hK K)));all_goals (try clear W)
    subst hE
    have hg0:=jbU 0 R.frs.length
    have hg1:=jbU 1 R.frs.length
    have hg2:fid 1 R.frs.length≠fid 0 R.frs.length:=fun e=>by have:=(jcX (by omega) (by omega) e).1;omega
    refine jsJ (R':=R.push (jbi p i args)) (tl:=[(4,.var 29 (jam p)),(5,.var 53 (jao (nth p.tree.nodes a.toNat))),(6,.vec 57 3 [ju9 p i args R.frs.length])]) rfl (RS.perm_push hok hfull ?_ (fun j hj=>?_) (fun j=>?_) jac) hB [.tmp 6] jac rfl rfl rfl
    ·simp [RS.c,RS.push,hfull]
    ·rfl
    ·simp only [jas,jtM,List.cons_append,List.nil_append]
     repeat' split
     all_goals first
      | rfl
      | (exfalso;omega)
   ·have hne:=eq_false (h.names.one i k (by omega) hcal.lt)
    rw [hnm] at hne
    (refine S ?_;try exact True.intro)
    (have W:=hne;repeat' (first|refine jaa fun K hK=>?_|refine wkA ?_|(with_reducible refine gR 15 ?_);refine dE 15 [0,1,2,3,4,5,6,7,8,9] mixed ?_|(refine hK _ _ ?_;clear hK K)|(refine jad (fun hc=>?_) (fun hc=>?_)<;>first | contradiction | (exfalso;omega) | skip)|(refine hKs _ _ (jau (i+1) (by omega) (by show k - (i+1) < k - i;omega) rfl lle))|refine wkB ?_|exact True.intro|(clear hK K)));all_goals (try clear W)
theorem jh4 (R:RS) (p:GProg) (x:Int):(R.fresh p x).1.frs=R.frs∧(R.fresh p x).1.nf=R.nf∧(R.fresh p x).1.jp=R.jp∧R.heap.length≤(R.fresh p x).1.heap.length:=by
 unfold RS.fresh
 simp only
 split
 ·exact ⟨rfl,rfl,rfl,Nat.le_refl _⟩
 split
 ·exact ⟨rfl,rfl,rfl,Nat.le_refl _⟩
 split
 ·exact ⟨rfl,rfl,rfl,Nat.le_refl _⟩
 ·exact ⟨rfl,rfl,rfl,by simp⟩
theorem jfD (R:RS) (p:GProg) (x:Int):R.frs.length≤(R.call p x).1.frs.length∧R.heap.length≤(R.call p x).1.heap.length:=by
 unfold RS.call
 simp only
 split
 ·exact ⟨Nat.le_refl _,Nat.le_refl _⟩
 split
 ·exact ⟨Nat.le_refl _,Nat.le_refl _⟩
 ·exact ⟨by simp [RS.push],Nat.le_refl _⟩
theorem jsM {p:GProg} (h:SOk p) (R:RS) (hd:Doing p R) (inp:List Int) (hn:inp.length≤1000) (hls:jfn p (atV p R.st)) (hw:¬ jbR p R.st (atV p R.st) inp) :
  ACalls Tryz.prog 116 [.agg (jam p),.pt 0 0 0 0,rI (atV p R.st),jal eI 1 inp] (R.e 39 [] [] []) (fun r l=>r=rI (R.right p (atV p R.st) inp).2∧l=(R.right p (atV p R.st) inp).1.e 39 [] [] []):=by
 have hok:=hd.inv.ok
 have hnf:=hok.nf
 have h1:=hd.one
 have hfr:=hd.inv.frs
 have hcl:=jaO R.heap
 have hcc:=hd.cells
 have hin0:=hd.in0
 have hin1:=hd.in1
 have hst:=hd.stAt h
 obtain ⟨s0,s1,s2,s3,s4,s5⟩:=hd.stmt h
 have hsl:=hst.sl
 have hs0:=hst.s0 hls
 rw [hd.topE] at hs0
 have hon:=hd.onOk h
 unfold jbR at hw
 generalize ha:atV p R.st=a at *
 obtain ⟨x,hla,hxr⟩:=(h.ok.tree.shape a.toNat s1).1.right hls
 have hkx:=(h.ok.tree.shape a.toNat s1).2.1 x (by rw [hla];simp)
 have hx0:nth (nth p.tree.nodes a.toNat).l 0=x:=by rw [hla];rfl
 have hx1:nth (jak p a).l 0=x:=hx0
 have hll:(nth p.tree.nodes a.toNat).l.length=1:=by rw [hla];rfl
 have hxn:x.toNat < p.tree.nodes.length:=by omega
 have hsto:∀ (R1:RS) (v:GValue),R1.frs=R.frs→R1.nf=R.nf→R1.jp=R.jp→ACalls Tryz.prog 163 [.agg (jam p),.pt 0 0 0 0,rI a,.agg (jag v)] (R1.e 39 [] [] []) (fun r l=>r=.tup []∧l=(R1.store p a v).e 39 [] [] []):=fun R1 v e1 e2 e3=>
  js5 p a v R1 (jdV hon e1 e2 e3) s0 (by omega) hsl (by rw [e1,e2];exact hs0)
 suffices key:∀ (R':RS) (tr:Int),(R',tr)=R.right p a inp→ACalls Tryz.prog 116 [.agg (jam p),.pt 0 0 0 0,rI a,jal eI 1 inp] (R.e 39 [] [] []) (fun r l=>r=rI tr∧l=R'.e 39 [] [] []) from key _ _ rfl
 intro R' tr hR'
 unfold RS.right at hR'
 simp only [hx1] at hR'
 have hkind:(jak p x).kind=jan p.tree.nodes x:=rfl
 rw [hx1,hkind] at hw
 rw [hkind] at hR'
 by_cases k21:jan p.tree.nodes x=21
 ·rw [if_pos k21] at hR'
  have hcall:=jpC h R hd x hkx.1 hxn k21
  have hfc:=jfD R p x
  rw [← hR'] at hcall hfc
  have k21':(nth p.tree.nodes x.toNat).kind=21:=k21
  refine jaw Tryz.func116 Tryz.ntmps116 ?_
  generalize hB:ids (R.e 39 [] [] [])=B
  generalize hE:R'.e 39 [] [] []=E
  (refine S ?_;try exact True.intro)
  (have W:=And.intro hx0 (And.intro hll (k21'));repeat' (first|refine jaa fun K hK=>?_|refine wkA ?_|(refine hK _ _ ?_;clear hK K)|(refine jad (fun hc=>?_) (fun hc=>?_)<;>first | contradiction | (exfalso;omega) | skip)|refine bxF 4 ?_|(refine cE (R:=R) (R':=R') (pre:=[]) (post:=[]) (pre':=[]) (post':=[]) hcall rfl hfc.1 hfc.2 rfl rfl jac rfl (by simp only [go_sem]) ?_;(refine S ?_;try exact True.intro))|refine wkB ?_|exact True.intro|(clear hK K)));all_goals (try clear W)
  subst hE
  exact jb8 (R':=R') (pre':=[]) (post':=[]) rfl hB [.tmp 8] jac rfl rfl rfl
 rw [if_neg k21] at hR'
 by_cases k19:jan p.tree.nodes x=19
 ·rw [if_pos k19] at hR'
  have hlt:R.in_ < inp.length:=Classical.byContradiction fun hh=>hw ⟨hls,k19,by show (inp.length:Int)≤R.in_;omega⟩
  obtain ⟨rfl,rfl⟩:=Prod.mk.inj hR'
  have hst:=hsto ({ R with in_:=R.in_+1 }:RS) (vI (nth inp R.in_.toNat)) rfl rfl rfl
  have k19':(nth p.tree.nodes x.toNat).kind=19:=k19
  refine jaw Tryz.func116 Tryz.ntmps116 ?_
  generalize hB:ids (R.e 39 [] [] [])=B
  generalize hE:(({ R with in_:=R.in_+1 }:RS).store p a (vI (nth inp R.in_.toNat))).e 39 [] [] []=E
  (refine S ?_;try exact True.intro)
  (have W:=And.intro hx0 (And.intro hll (k19'));repeat' (first|refine jaa fun K hK=>?_|refine wkA ?_|(refine hK _ _ ?_;clear hK K)|(refine jad (fun hc=>?_) (fun hc=>?_)<;>first | contradiction | (exfalso;omega) | skip)|refine bxF 4 ?_|refine alF 5 ?_|refine cp (jjm _) ?_|(refine cE (R:={ R with in_:=R.in_+1 }) (R':=({ R with in_:=R.in_+1 }:RS).store p a (vI (nth inp R.in_.toNat))) (pre:=[]) (post:=[]) (pre':=[]) (post':=[]) hst rfl (Nat.le_of_eq (by rw [RS.store,RS.on,← RS.upd_len,RS.setS,← RS.upd_len])) (Nat.le_refl _) rfl rfl jac rfl (by simp only [go_sem]) ?_;(refine S ?_;try exact True.intro))|refine wkB ?_|exact True.intro|(clear hK K)));all_goals (try clear W)
  subst hE
  exact jb8 (R':=({ R with in_:=R.in_+1 }:RS).store p a (vI (nth inp R.in_.toNat))) (pre':=[]) (post':=[]) rfl hB [.tmp 8] jac rfl rfl rfl
 rw [if_neg k19] at hR'
 have hle:∀ (R1:RS) (v:GValue),R1.frs.length≤(R1.store p a v).frs.length:=fun R1 v=>Nat.le_of_eq (by rw [RS.store,RS.on,← RS.upd_len,RS.setS,← RS.upd_len])
 by_cases k20:jan p.tree.nodes x=20
 ·rw [if_pos k20] at hR'
  have hf:=jsa h R hd x hkx.1 hxn k20
  obtain ⟨z1,z2,z3,z4⟩:=jh4 R p x
  have k20':(nth p.tree.nodes x.toNat).kind=20:=k20
  generalize R.fresh p x=Z at *
  have z5:R.frs.length≤Z.1.frs.length:=by rw [z1];exact Nat.le_refl _
  have hst:=hsto Z.1 Z.2.1 z1 z2 z3
  by_cases hz:Z.2.2=0
  ·rw [if_pos hz] at hR'
   obtain ⟨rfl,rfl⟩:=Prod.mk.inj hR'
   refine jaw Tryz.func116 Tryz.ntmps116 ?_
   generalize hB:ids (R.e 39 [] [] [])=B
   generalize hE:(Z.1.store p a Z.2.1).e 39 [] [] []=E
   (refine S ?_;try exact True.intro)
   (have W:=And.intro hx0 (And.intro hll (k20'));repeat' (first|refine jaa fun K hK=>?_|refine wkA ?_|(refine hK _ _ ?_;clear hK K)|(refine jad (fun hc=>?_) (fun hc=>?_)<;>first | contradiction | (exfalso;omega) | skip)|refine bxF 4 ?_|refine alF 5 ?_|(refine cE (R:=R) (R':=Z.1) (pre:=[]) (post:=[]) (pre':=[]) (post':=[]) hf rfl z5 z4 rfl rfl jac rfl (by simp only [go_sem]) ?_;(refine S ?_;try exact True.intro))|(refine cE (R:=Z.1) (R':=Z.1.store p a Z.2.1) (pre:=[]) (post:=[]) (pre':=[]) (post':=[]) hst rfl (hle _ _) (Nat.le_refl _) rfl rfl jac rfl (by simp only [go_sem]) ?_;(refine S ?_;try exact True.intro))|refine wkB ?_|exact True.intro|(clear hK K)));all_goals (try clear W)
   subst hE
   exact jb8 (R':=Z.1.store p a Z.2.1) (pre':=[]) (post':=[]) rfl hB [.tmp 8] jac rfl rfl rfl (hv:=by first | rfl | exact congrArg _ (congrArg _ hz))
  ·rw [if_neg hz] at hR'
   obtain ⟨rfl,rfl⟩:=Prod.mk.inj hR'
   refine jaw Tryz.func116 Tryz.ntmps116 ?_
   generalize hB:ids (R.e 39 [] [] [])=B
   generalize hE:Z.1.e 39 [] [] []=E
   (refine S ?_;try exact True.intro)
   (have W:=And.intro hx0 (And.intro hll (k20'));repeat' (first|refine jaa fun K hK=>?_|refine wkA ?_|(refine hK _ _ ?_;clear hK K)|(refine jad (fun hc=>?_) (fun hc=>?_)<;>first | contradiction | (exfalso;omega) | skip)|refine bxF 4 ?_|refine alF 5 ?_|(refine cE (R:=R) (R':=Z.1) (pre:=[]) (post:=[]) (pre':=[]) (post':=[]) hf rfl z5 z4 rfl rfl jac rfl (by simp only [go_sem]) ?_;(refine S ?_;try exact True.intro))|refine wkB ?_|exact True.intro|(clear hK K)));all_goals (try clear W)
   subst hE
   exact jb8 (R':=Z.1) (pre':=[]) (post':=[]) rfl hB [.tmp 8] jac rfl rfl rfl
 rw [if_neg k20] at hR'
 have hE9:isE (jan p.tree.nodes x):=by
  rcases hxr with e | e | e | e
  ·exact e
  ·exact (k19 e).elim
  ·exact (k20 e).elim
  ·exact (k21 e).elim
 have hvx:=jc9 h R hok h1 (by omega) (by omega) x hkx.1 (by omega) hE9
 have hE1:1≤(nth p.tree.nodes x.toNat).kind∧(nth p.tree.nodes x.toNat).kind≤9:=hE9
 have hE2:=hE1.1
 have hE3:=hE1.2
 generalize R.val p x=X at *
 have hst:=hsto R X.1 rfl rfl rfl
 by_cases hz:X.2=0
 ·rw [if_pos hz] at hR'
  obtain ⟨rfl,rfl⟩:=Prod.mk.inj hR'
  refine jaw Tryz.func116 Tryz.ntmps116 ?_
  generalize hB:ids (R.e 39 [] [] [])=B
  generalize hE:(R.store p a X.1).e 39 [] [] []=E
  (refine S ?_;try exact True.intro)
  (have W:=And.intro hx0 (hll);repeat' (first|refine jaa fun K hK=>?_|refine wkA ?_|(refine hK _ _ ?_;clear hK K)|(refine jad (fun hc=>?_) (fun hc=>?_)<;>first | contradiction | (exfalso;omega) | skip)|refine bxF 4 ?_|refine alF 5 ?_|(refine cE (R:=R) (R':=R) (pre:=[]) (post:=[]) (pre':=[]) (post':=[]) hvx rfl (Nat.le_refl _) (Nat.le_refl _) rfl rfl jac rfl (by simp only [go_sem]) ?_;(refine S ?_;try exact True.intro))|(refine cE (R:=R) (R':=R.store p a X.1) (pre:=[]) (post:=[]) (pre':=[]) (post':=[]) hst rfl (hle _ _) (Nat.le_refl _) rfl rfl jac rfl (by simp only [go_sem]) ?_;(refine S ?_;try exact True.intro))|refine wkB ?_|exact True.intro|(clear hK K)));all_goals (try clear W)
  subst hE
  exact jb8 (R':=R.store p a X.1) (pre':=[]) (post':=[]) rfl hB [.tmp 8] jac rfl rfl rfl (hv:=by first | rfl | exact congrArg _ (congrArg _ hz))
 ·rw [if_neg hz] at hR'
  obtain ⟨rfl,rfl⟩:=Prod.mk.inj hR'
  refine jaw Tryz.func116 Tryz.ntmps116 ?_
  generalize hB:ids (R'.e 39 [] [] [])=B
  suffices key2:∀ R2:RS,R2=R'→AWP _ _ (jhu _ _ fun r l=>r=rI X.2∧l=R2.e 39 [] [] []) _ _ from key2 R' rfl
  intro R2 hR2
  generalize hE:R2.e 39 [] [] []=E
  (refine S ?_;try exact True.intro)
  (have W:=And.intro hx0 (hll);repeat' (first|refine jaa fun K hK=>?_|refine wkA ?_|(refine hK _ _ ?_;clear hK K)|(refine jad (fun hc=>?_) (fun hc=>?_)<;>first | contradiction | (exfalso;omega) | skip)|refine bxF 4 ?_|refine alF 5 ?_|(refine cE (R:=R') (R':=R') (pre:=[]) (post:=[]) (pre':=[]) (post':=[]) hvx rfl (Nat.le_refl _) (Nat.le_refl _) rfl rfl jac rfl (by simp only [go_sem]) ?_;(refine S ?_;try exact True.intro))|refine wkB ?_|exact True.intro|(clear hK K)));all_goals (try clear W)
  subst hE
  subst hR2
  exact jb8 (R':=R2) (pre':=[]) (post':=[]) rfl hB [.tmp 8] jac rfl rfl rfl
theorem jiG (R:RS) (p:GProg) (a:Int) (v:GValue):(R.store p a v).frs.length=R.frs.length:=by rw [RS.store,RS.on,← RS.upd_len,RS.setS,← RS.upd_len]
theorem jqR (R:RS) (p:GProg) (a:Int) (inp:List Int):R.frs.length≤(R.right p a inp).1.frs.length∧R.heap.length≤(R.right p a inp).1.heap.length:=by
 unfold RS.right
 simp only
 split
 ·exact jfD R p _
 split
 ·exact ⟨Nat.le_of_eq (jiG _ _ _ _).symm,Nat.le_refl _⟩
 split
 ·obtain ⟨f1,f2,f3,f4⟩:=jh4 R p (nth (jak p a).l 0)
  split
  ·exact ⟨Nat.le_of_eq ((congrArg List.length f1).symm.trans (jiG _ _ _ _).symm),f4⟩
  ·exact ⟨Nat.le_of_eq (congrArg List.length f1).symm,f4⟩
 ·split
  ·exact ⟨Nat.le_of_eq (jiG _ _ _ _).symm,Nat.le_refl _⟩
  ·exact ⟨Nat.le_refl _,Nat.le_refl _⟩
theorem jvf (R:RS) (p:GProg) (a:Int):R.frs.length≤(R.put p a).1.frs.length∧R.heap.length≤(R.put p a).1.heap.length:=by
 unfold RS.put
 simp only
 split
 ·exact ⟨Nat.le_refl _,Nat.le_refl _⟩
 split
 ·exact ⟨Nat.le_refl _,Nat.le_refl _⟩
 split
 ·exact ⟨Nat.le_refl _,Nat.le_refl _⟩
 ·refine ⟨Nat.le_of_eq RS.upd_len,?_⟩
  show R.heap.length≤(R.heap.set _ _).length
  simp
theorem jmf {p:GProg} (h:SOk p) (R:RS) (hd:Doing p R) (inp:List Int) (hn:inp.length≤1000) (hls:jfn p (atV p R.st)) (hw:¬ jbR p R.st (atV p R.st) inp) :
  ACalls Tryz.prog 67 [.agg (jam p),.pt 0 0 0 0,rI (atV p R.st),jal eI 1 inp] (R.e 39 [] [] []) (fun r l=>r=rI (R.right p (atV p R.st) inp).2∧l=((R.right p (atV p R.st) inp).1).e 39 [] [] []):=by
 have hok:=hd.inv.ok
 have hnf:=hok.nf
 have h1:=hd.one
 have hfr:=hd.inv.frs
 have hcl:=jaO R.heap
 have hcc:=hd.cells
 have hst:=hd.stAt h
 obtain ⟨s0,s1,s2,s3,s4,s5⟩:=hd.stmt h
 have hsl:=hst.sl
 have hon:=hd.onOk h
 have hx:=jsM h R hd inp hn hls hw
 have hle:=jqR R p (atV p R.st) inp
 unfold jfn at hls
 generalize R.right p (atV p R.st) inp=Z at *
 generalize atV p R.st=a at *
 refine jaw Tryz.func67 Tryz.ntmps67 ?_
 generalize hB:ids (R.e 39 [] [] [])=B
 generalize hE:(Z.1).e 39 [] [] []=E
 (refine S ?_;try exact True.intro)
 (have W:=hls;repeat' (first|refine jaa fun K hK=>?_|refine wkA ?_|(refine hK _ _ ?_;clear hK K)|(refine jad (fun hc=>?_) (fun hc=>?_)<;>first | contradiction | (exfalso;omega) | skip)|refine bxF 4 ?_|refine alF 5 ?_|(refine cE (R:=R) (R':=Z.1) (pre:=[]) (post:=[]) (pre':=[]) (post':=[]) hx rfl hle.1 hle.2 rfl rfl jac rfl (by simp only [go_sem]) ?_;(refine S ?_;try exact True.intro))|refine wkB ?_|exact True.intro|(clear hK K)));all_goals (try clear W)
 all_goals
  subst hE
  exact jb8 (R':=Z.1) (pre':=[]) (post':=[]) rfl hB [.tmp 8] jac rfl rfl rfl
theorem jou {p:GProg} (h:SOk p) (R:RS) (hd:Doing p R) (inp:List Int) (hk:(jak p (atV p R.st)).kind=13) :
  ACalls Tryz.prog 67 [.agg (jam p),.pt 0 0 0 0,rI (atV p R.st),jal eI 1 inp] (R.e 39 [] [] []) (fun r l=>r=rI (R.call p (nth (jak p (atV p R.st)).l 0)).2∧l=((R.call p (nth (jak p (atV p R.st)).l 0)).1).e 39 [] [] []):=by
 have hok:=hd.inv.ok
 have hnf:=hok.nf
 have h1:=hd.one
 have hfr:=hd.inv.frs
 have hcl:=jaO R.heap
 have hcc:=hd.cells
 have hst:=hd.stAt h
 obtain ⟨s0,s1,s2,s3,s4,s5⟩:=hd.stmt h
 have hsl:=hst.sl
 have hon:=hd.onOk h
 generalize atV p R.st=a at *
 obtain ⟨x,hla,hkx⟩:=(h.ok.tree.shape a.toNat s1).1.do_ hk
 have hb:=(h.ok.tree.shape a.toNat s1).2.1 x (by rw [hla];simp)
 have hx0:nth (nth p.tree.nodes a.toNat).l 0=x:=by rw [hla];rfl
 have hll:(nth p.tree.nodes a.toNat).l.length=1:=by rw [hla];rfl
 rw [show nth (jak p a).l 0=x from hx0]
 have hx:=jpC h R hd x hb.1 (by omega) hkx
 have hle:=jfD R p x
 generalize R.call p x=Z at *
 have hk':(nth p.tree.nodes a.toNat).kind=13:=hk
 refine jaw Tryz.func67 Tryz.ntmps67 ?_
 generalize hB:ids (R.e 39 [] [] [])=B
 generalize hE:(Z.1).e 39 [] [] []=E
 (refine S ?_;try exact True.intro)
 (have W:=And.intro hk' (And.intro hx0 (hll));repeat' (first|refine jaa fun K hK=>?_|refine wkA ?_|(with_reducible refine gR 7 ?_);refine dE 7 [0,1,2,3,4,5,6,7] mixed ?_|(refine hK _ _ ?_;clear hK K)|(refine jad (fun hc=>?_) (fun hc=>?_)<;>first | contradiction | (exfalso;omega) | skip)|refine bxF 4 ?_|refine alF 5 ?_|(refine cE (R:=R) (R':=Z.1) (pre:=[]) (post:=[]) (pre':=[]) (post':=[]) hx rfl hle.1 hle.2 rfl rfl jac rfl (by simp only [go_sem]) ?_;(refine S ?_;try exact True.intro))|refine wkB ?_|exact True.intro|(clear hK K)));all_goals (try clear W)
 subst hE
 exact jb8 (R':=Z.1) (pre':=[]) (post':=[]) rfl hB [.tmp 8] jac rfl rfl rfl
theorem jpJ {p:GProg} (h:SOk p) (R:RS) (hd:Doing p R) (inp:List Int) (hk:(jak p (atV p R.st)).kind=12) :
  ACalls Tryz.prog 67 [.agg (jam p),.pt 0 0 0 0,rI (atV p R.st),jal eI 1 inp] (R.e 39 [] [] []) (fun r l=>r=rI (R.put p (atV p R.st)).2∧l=((R.put p (atV p R.st)).1).e 39 [] [] []):=by
 have hok:=hd.inv.ok
 have hnf:=hok.nf
 have h1:=hd.one
 have hfr:=hd.inv.frs
 have hcl:=jaO R.heap
 have hcc:=hd.cells
 have hst:=hd.stAt h
 obtain ⟨s0,s1,s2,s3,s4,s5⟩:=hd.stmt h
 have hsl:=hst.sl
 have hon:=hd.onOk h
 have hx:=jyl h R hd hk
 have hle:=jvf R p (atV p R.st)
 generalize R.put p (atV p R.st)=Z at *
 generalize atV p R.st=a at *
 have hk':(nth p.tree.nodes a.toNat).kind=12:=hk
 refine jaw Tryz.func67 Tryz.ntmps67 ?_
 generalize hB:ids (R.e 39 [] [] [])=B
 generalize hE:(Z.1).e 39 [] [] []=E
 (refine S ?_;try exact True.intro)
 (have W:=hk';repeat' (first|refine jaa fun K hK=>?_|refine wkA ?_|(refine hK _ _ ?_;clear hK K)|(refine jad (fun hc=>?_) (fun hc=>?_)<;>first | contradiction | (exfalso;omega) | skip)|refine bxF 4 ?_|refine alF 5 ?_|(refine cE (R:=R) (R':=Z.1) (pre:=[]) (post:=[]) (pre':=[]) (post':=[]) hx rfl hle.1 hle.2 rfl rfl jac rfl (by simp only [go_sem]) ?_;(refine S ?_;try exact True.intro))|refine wkB ?_|exact True.intro|(clear hK K)));all_goals (try clear W)
 subst hE
 exact jb8 (R':=Z.1) (pre':=[]) (post':=[]) rfl hB [.tmp 8] jac rfl rfl rfl
end Go.Proofs.YtfkgcobaheegbaaGreatDoor
