/- Lemmas. No conditions. -/
import Derived.Test.YtfkgcobaheegbaaGreatDoorWd
set_option linter.all false
set_option maxHeartbeats 2000000
set_option maxRecDepth 10000
namespace Go.Gd
open Go
variable{l l':List (Nat×Row)}
theorem oE(j:Nat)(r:Row)(h:∀i,aD l i=aD l' i):∀i,aD ((j,r)::l) i=aD ((j,r)::l') i:=fun i=>by
 show(if i=j then _ else _)=(if i=j then _ else _);rw[h i]
theorem zL(a:Nat)(f:Nat->Row){l l':List (Nat×Row)}(h:∀i,aD l i=aD l' i):∀(n k i:Nat),aD (fQ a f k n l) i=aD (fQ a f k n l') i
 |0,k,i=>h i
 |n+1,k,i=>oE _ _ (zL a f h n (k+1)) i
theorem rZ(a n:Nat)(f:Nat->Row)(h:∀i,aD l i=aD l' i)(i:Nat):aD (cD a n f l) i=aD (cD a n f l') i:=zL a f h n 0 i
theorem FI(a:Nat)(f:Nat->Row)(l:List (Nat×Row)):∀(n k:Nat),fQ a f k (n+1) l=fQ a f k n ((bW a (k+n),f (k+n))::l)
 |0,k=>rfl
 |n+1,k=>by
  show(bW a k,f k)::fQ a f (k+1) (n+1) l=(bW a k,f k)::fQ a f (k+1) n _;rw[FI a f l n (k+1),show k+1+n=k+(n+1) from jB]
variable{r:Row}
theorem Iu{j:Nat}(h:aD l j=none)(i:Nat):aD (l++[(j,r)]) i=aD ((j,r)::l) i:=by
 rw[rz];show _=if i=j then some r else aD l i
 by_cases e:i=j
 ·subst e;rw[h,if_pos rfl];simp[aD]
 ·rw[if_neg e];simp[aD,e]
variable{n:Nat}{tl:List (Nat×Row)}
theorem B5{a:Nat}(f':Nat->Row){f:Nat->Row}(hf:∀k,k<n->f k=f' k)(hr:r=f' n)(htl:aD tl (bW a n)=none)(i:Nat):aD (cD a n f (tl++[(bW a n,r)])) i=aD (cD a (n+1) f' tl) i:=by
 rw[LI rfl hf rfl];unfold cD;rw[FI,Nat.zero_add,hr];exact zL a f' (fun i=>Iu htl i) n 0 i
theorem Ay(h:low tl)(a k:Nat):aD tl (bW a k)=none:=by
 cases e:aD tl (bW a k)with
 |none=>rfl
 |some r=>have:=(h _ _ e).2;have:=oH a k;omega
theorem I7{h:Nat}(s' p':Nat->Row){s p q:Nat->Row}{r0 r1:Row}(hs:∀k,k<n->s k=s' k)(hp:∀k,k<n->p k=p' k)(h0:r0=s' n)(h1:r1=p' n)(hl:low tl)(i:Nat) :
  aD (cD 0 n s (cD 1 n p (cD 2 h q (tl++[(bW 1 n,r1),(bW 0 n,r0)])))) i=aD (cD 0 (n+1) s' (cD 1 (n+1) p' (cD 2 h q tl))) i:=by
 have e:cD 1 n p (cD 2 h q (tl++[(bW 1 n,r1),(bW 0 n,r0)]))=cD 1 n p (cD 2 h q tl++[(bW 1 n,r1)])++[(bW 0 n,r0)]:=by
  rw[show tl++[(bW 1 n,r1),(bW 0 n,r0)]=(tl++[(bW 1 n,r1)])++[(bW 0 n,r0)] from jE,qw,qw,qw 2 h q tl]
 have z0:aD (cD 2 h q tl) (bW 0 n)=none:=by rw[oG _ _ _ _ _ _ jB jB jB];exact Ay hl _ _
 have z1:aD (cD 2 h q tl) (bW 1 n)=none:=by rw[oG _ _ _ _ _ _ jB jB jB];exact Ay hl _ _
 rw[e,B5 s' hs h0 (by
  rw[oG _ _ _ _ _ _ jB jB jB,rz,z0];simp[aD,O8 0 1 n n jB jB jB])]
 exact rZ 0 (n+1) s' (fun i=>B5 p' hp h1 z1 i) i
theorem Ox{h:Nat}(q':Nat->Row){s p q:Nat->Row}(hq:∀k,k<h->q k=q' k)(h2:r=q' h)(hl:low tl)(i:Nat) :
  aD (cD 0 n s (cD 1 n p (cD 2 h q (tl++[(bW 2 h,r)])))) i=aD (cD 0 n s (cD 1 n p (cD 2 (h+1) q' tl))) i:=
 rZ 0 n s (fun i=>rZ 1 n p (fun i=>B5 q' hq h2 (Ay hl _ _) i) i) i
def Kk(p:ab)(k:Int):aZ:=⟨(nth p.aa.ap k.toNat).body,0⟩
def LN(p:ab)(fn:Int)(args:List ak)(n:Nat):List (Nat×Row):=[(bW 1 n,.aO 89 2 ([Kk p fn].map l7)),(bW 0 n,.aO 59 3 ((iJ p fn args).slots.map cI))]
def JU(p:ab)(fn:Int)(args:List ak)(n:Nat):List AV:=[.raw (.int .i64 fn),.rs (bW 0 n) (iJ p fn args).slots.length 3 (iJ p fn args).slots.length,.rs (bW 1 n) 1 2 1]
end Go.Gd
namespace Go.Proofs.YtfkgcobaheegbaaGreatDoor
open Go Go.Gd
end Go.Proofs.YtfkgcobaheegbaaGreatDoor
namespace Go.Gd
open Go
def RS.grow(R:RS)(l:List Int):RS:={ R with heap:=R.heap++[l] }
theorem Hi{l l':List (Nat×Row)}(j:Nat){r r':Row}(hr:r=r')(h:∀i,aD l i=aD l' i):∀i,aD ((j,r)::l) i=aD ((j,r')::l') i:=by subst hr;exact oE j r h
end Go.Gd
namespace Go.Proofs.YtfkgcobaheegbaaGreatDoor
open Go Go.Gd
end Go.Proofs.YtfkgcobaheegbaaGreatDoor
namespace Go.Gd
open Go
theorem yK{tl:List (Nat×Row)}(h:(ids tl).all (fun i=>decide (4<=i/\i<1000))=true:=by rfl):low tl:=fun i r hi=>of_decide_eq_true (List.all_eq_true.1 h i ((mb _ _).2 (by rw[hi];simp)))
end Go.Gd
namespace Go.Proofs.YtfkgcobaheegbaaGreatDoor
open Go Go.Gd
end Go.Proofs.YtfkgcobaheegbaaGreatDoor
