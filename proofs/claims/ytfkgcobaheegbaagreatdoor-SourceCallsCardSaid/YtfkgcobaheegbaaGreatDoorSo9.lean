/- What a program means: a call that begins. What a program means: what is told of a let, or a set. What a program means: a statement. No conditions. -/
import Derived.Test.YtfkgcobaheegbaaGreatDoorSo6
set_option linter.all false
namespace Go.Gd
open Go
theorem RS.perm_push {t:TypeId} {pre post:List AV} {R:RS} {p:GProg} {fn:Int} {args:List GValue} {tl tl0:List (Nat×Row)} {c0:List AV} {fr:Nat→List AV} (hok:R.Ok) (hf:R.nf=R.frs.length) (hc:c0=pre++(R.push (jbh p fn args)).c++post) (hfr:∀ k,k < R.frs.length+1→fr k=if k=R.frs.length then j2h p fn args R.frs.length else R.fr k)
  (ht:∀ i,jau tl0 i=jau (tl++j0N p fn args R.frs.length) i) (hl:low tl) :
  ∀ i,jau ((0,.var t c0)::(1,.vec 57 3 (tab (R.frs.length+1) fr))::(2,.vec 22 1 (tab R.heap.length fun k=>[.rs (fid 2 k) (nth R.heap k).length 1 (nth R.heap k).length]))::(3,.vec 9 1 (R.out_.map eS))::fam 0 R.frs.length R.sl (fam 1 R.frs.length R.pt (fam 2 R.heap.length R.hp tl0))) i=jau ((R.push (jbh p fn args)).e t pre post tl) i:=by
 have hjp:=hok.jp
 have hlen:(R.push (jbh p fn args)).frs.length=R.frs.length+1:=by simp [RS.push]
 have hu:∀ k,k≤R.frs.length→nth (R.push (jbh p fn args)).frs k=if k=R.frs.length then jbh p fn args else nth R.frs k:=fun k hk=>by
  show nth (R.frs++[_]) k=_
  by_cases e:k=R.frs.length
  ·subst e;rw [if_pos rfl,jdc]
  ·rw [if_neg e,jbe (by omega)]
 have hv:∀ k,k≤R.frs.length→nth (R.push (jbh p fn args)).jp k=if k=R.frs.length then [] else nth R.jp k:=fun k hk=>by
  show nth (R.jp++[[]]) k=_
  by_cases e:k=R.frs.length
  ·rw [if_pos e,e,← hjp,jdc]
  ·rw [if_neg e,jbe (by omega)]
 refine jbs _ (by rw [hc]) (jbs _ ?_ (jbs _ rfl (jbs _ rfl fun i=>?_)))
 ·rw [jch (g:=(R.push (jbh p fn args)).fr) hlen.symm fun j hj=>?_]
  rw [hfr j hj]
  unfold RS.fr
  rw [hu j (by omega),hv j (by omega)]
  by_cases e:j=R.frs.length
  ·subst e;rw [if_pos rfl,if_pos rfl,if_pos rfl];rfl
  ·rw [if_neg e,if_neg e,if_neg e]
 ·rw [jaY 0 _ _ (fun i=>jaY 1 _ _ (fun i=>jaY 2 _ _ ht i) i) i]
  unfold j0N
  rw [jkO (R.push (jbh p fn args)).sl (R.push (jbh p fn args)).pt (fun k hk=>?_) (fun k hk=>?_) ?_ ?_ hl,hlen]
  ·rfl
  ·unfold RS.sl;rw [hu _ (Nat.le_refl _),if_pos rfl]
  ·unfold RS.pt;rw [hu _ (Nat.le_refl _),hv _ (Nat.le_refl _),if_pos rfl,if_pos rfl];rfl
  ·unfold RS.sl;rw [hu k (by omega),if_neg (by omega)]
  ·unfold RS.pt;rw [hu k (by omega),hv k (by omega),if_neg (by omega),if_neg (by omega)]
attribute [go_sem] j0N j2h
theorem j2v {P:Program} {c:Code} {Q:Exit→List AV→Hp→Prop} {F:List AV} {H:Hp} {t t':TypeId} {pre post pre' post':List AV} {R R':RS} {B:List Nat} (L:List Nat) (J:List (Nat×AV)) (tl:List (Nat×Row)) (h00:(L.any fun i=>(jau tl i).isSome)=true) (hL:L.all (fun i=>decide (4≤i∧i < 1000))=true) (hH:H=⟨B,R'.e t' pre' post' tl⟩) (hB:ids (R.e t pre post [])=B) (hp:jaE noQ pre'=true) (hq:jaE noQ post'=true)
  (hs:jeu (fun i=>L.contains i) tl) (hv:VToL (fun i=>L.contains i) H F (jly J F)) (h:AWP P c Q (jly J F) ⟨B,R'.e t' pre' post' (jbf (fun i=>L.contains i) tl)⟩):AWP P c Q F H:=j2u L tl h00 hL hH hB hp hq hs hv h
end Go.Gd
namespace Go.Proofs.YtfkgcobaheegbaaGreatDoor
open Go Go.Gd
set_option maxHeartbeats 4000000
set_option maxRecDepth 10000
theorem jql {p:GProg} (R:RS):∀ (l:List Int) (a:List GValue) (k:Nat),k≤l.length→(∀ j,j < k→(R.val p (nth l j)).2=0)→R.args p l a=R.args p (l.drop k) (a++(l.take k).map fun x=>(R.val p x).1)
 | l,a,0,_,_=>by simp
 | [],a,k+1,h,_=>by simp at h
 | x::l,a,k+1,h,h0=>by
  have e0:(R.val p x).2=0:=h0 0 (by omega)
  conv=>lhs;unfold RS.args
  rw [if_neg (fun h=>h e0),jql R l _ k (by simpa using h) fun j hj=>h0 (j+1) (by omega)]
  simp
theorem jqm (R:RS) (p:GProg) (x:Int) (l:List Int) (a:List GValue):R.args p (x::l) a=if (R.val p x).2≠0 then (a,(R.val p x).2) else R.args p l (a++[(R.val p x).1]):=by conv=>lhs;unfold RS.args
theorem jsr (R:RS) (p:GProg) (a:List GValue):R.args p [] a=(a,0):=by unfold RS.args;rfl
theorem jqG (R:RS) (p:GProg) (x:Int):(R.fresh p x).1.frs=R.frs∧(R.fresh p x).1.nf=R.nf∧(R.fresh p x).1.jp=R.jp∧R.heap.length≤(R.fresh p x).1.heap.length:=by
 unfold RS.fresh
 simp only
 split
 ·exact ⟨rfl,rfl,rfl,Nat.le_refl _⟩
 split
 ·exact ⟨rfl,rfl,rfl,Nat.le_refl _⟩
 split
 ·exact ⟨rfl,rfl,rfl,Nat.le_refl _⟩
 ·exact ⟨rfl,rfl,rfl,by simp⟩
theorem jnZ (R:RS) (p:GProg) (x:Int):R.frs.length≤(R.call p x).1.frs.length∧R.heap.length≤(R.call p x).1.heap.length:=by
 unfold RS.call
 simp only
 split
 ·exact ⟨Nat.le_refl _,Nat.le_refl _⟩
 split
 ·exact ⟨Nat.le_refl _,Nat.le_refl _⟩
 ·exact ⟨by simp [RS.push],Nat.le_refl _⟩
end Go.Proofs.YtfkgcobaheegbaaGreatDoor
