/- Lemmas. No conditions. -/
import Derived.Test.YtfkgcobaheegbaaGreatDoorWd
set_option linter.all false
set_option maxHeartbeats 2000000
set_option maxRecDepth 10000
namespace Go.Gd
open Go
variable{l l':List (Nat×Row)}
theorem oQ(j:Nat)(r:Row)(h:∀i,av l i=av l' i):∀i,av ((j,r)::l) i=av ((j,r)::l') i:=fun i=>by show(if i=j then _ else _)=(if i=j then _ else _);rw[h i]
theorem Cj(a:Nat)(f:Nat->Row){l l':List (Nat×Row)}(h:∀i,av l i=av l' i):∀(n k i:Nat),av (fX a f k n l) i=av (fX a f k n l') i
 |0,k,i=>h i
 |n+1,k,i=>oQ _ _ (Cj a f h n (k+1)) i
theorem sP(a n:Nat)(f:Nat->Row)(h:∀i,av l i=av l' i)(i:Nat):av (cK a n f l) i=av (cK a n f l') i:=Cj a f h n 0 i
theorem He(a:Nat)(f:Nat->Row)(l:List (Nat×Row)):∀(n k:Nat),fX a f k (n+1) l=fX a f k n ((bY a (k+n),f (k+n))::l)
 |0,k=>rfl
 |n+1,k=>by show(bY a k,f k)::fX a f (k+1) (n+1) l=(bY a k,f k)::fX a f (k+1) n _;rw[He a f l n (k+1),show k+1+n=k+(n+1) from jB]
variable{r:Row}
theorem Ly{j:Nat}(h:av l j=none)(i:Nat):av (l++[(j,r)]) i=av ((j,r)::l) i:=by
 rw[jd];show _=if i=j then some r else av l i
 by_cases e:i=j
 ·subst e;rw[h,if_pos rfl];simp[av]
 ·rw[if_neg e];simp[av,e]
variable{n:Nat}{tl:List (Nat×Row)}
theorem Bl{a:Nat}(f':Nat->Row){f:Nat->Row}(hf:∀k,k<n->f k=f' k)(hr:r=f' n)(htl:av tl (bY a n)=none)(i:Nat):av (cK a n f (tl++[(bY a n,r)])) i=av (cK a (n+1) f' tl) i:=by rw[MO rfl hf rfl];unfold cK;rw[He,Nat.zero_add,hr];exact Cj a f' (fun i=>Ly htl i) n 0 i
theorem AY(h:low tl)(a k:Nat):av tl (bY a k)=none:=by
 cases e:av tl (bY a k)with
 |none=>rfl
 |some r=>have:=(h _ _ e).2;have:=o6 a k;omega
theorem Mr{h:Nat}(s' p':Nat->Row){s p q:Nat->Row}{r0 r1:Row}(hs:∀k,k<n->s k=s' k)(hp:∀k,k<n->p k=p' k)(h0:r0=s' n)(h1:r1=p' n)(hl:low tl)(i:Nat) :
  av (cK 0 n s (cK 1 n p (cK 2 h q (tl++[(bY 1 n,r1),(bY 0 n,r0)])))) i=av (cK 0 (n+1) s' (cK 1 (n+1) p' (cK 2 h q tl))) i:=by
 have e:cK 1 n p (cK 2 h q (tl++[(bY 1 n,r1),(bY 0 n,r0)]))=cK 1 n p (cK 2 h q tl++[(bY 1 n,r1)])++[(bY 0 n,r0)]:=by rw[show tl++[(bY 1 n,r1),(bY 0 n,r0)]=(tl++[(bY 1 n,r1)])++[(bY 0 n,r0)] from jE,rb,rb,rb 2 h q tl]
 have z0:av (cK 2 h q tl) (bY 0 n)=none:=by rw[oU _ _ _ _ _ _ jB jB jB];exact AY hl _ _
 have z1:av (cK 2 h q tl) (bY 1 n)=none:=by rw[oU _ _ _ _ _ _ jB jB jB];exact AY hl _ _
 rw[e,Bl s' hs h0 (by rw[oU _ _ _ _ _ _ jB jB jB,jd,z0];simp[av,Lg 0 1 n n jB jB jB])]
 exact sP 0 (n+1) s' (fun i=>Bl p' hp h1 z1 i) i
theorem Jg{h:Nat}(q':Nat->Row){s p q:Nat->Row}(hq:∀k,k<h->q k=q' k)(h2:r=q' h)(hl:low tl)(i:Nat) :
  av (cK 0 n s (cK 1 n p (cK 2 h q (tl++[(bY 2 h,r)])))) i=av (cK 0 n s (cK 1 n p (cK 2 (h+1) q' tl))) i:=
 sP 0 n s (fun i=>sP 1 n p (fun i=>Bl q' hq h2 (AY hl _ _) i) i) i
def JZ(p:ab)(k:Int):bf:=⟨(nth p.aa.ao k.toNat).body,0⟩
def NJ(p:ab)(fn:Int)(args:List ak)(n:Nat):List (Nat×Row):=[(bY 1 n,.aL 89 2 ([JZ p fn].map qc)),(bY 0 n,.aL 59 3 ((jc p fn args).slots.map cv))]
def Ow(p:ab)(fn:Int)(args:List ak)(n:Nat):List AV:=[.raw (.int .i64 fn),.rs (bY 0 n) (jc p fn args).slots.length 3 (jc p fn args).slots.length,.rs (bY 1 n) 1 2 1]
end Go.Gd
namespace Go.Proofs.YtfkgcobaheegbaaGreatDoor
open Go Go.Gd
end Go.Proofs.YtfkgcobaheegbaaGreatDoor
namespace Go.Gd
open Go
def RS.grow(R:RS)(l:List Int):RS:={ R with heap:=R.heap++[l] }
theorem E9{l l':List (Nat×Row)}(j:Nat){r r':Row}(hr:r=r')(h:∀i,av l i=av l' i):∀i,av ((j,r)::l) i=av ((j,r')::l') i:=by subst hr;exact oQ j r h
end Go.Gd
namespace Go.Proofs.YtfkgcobaheegbaaGreatDoor
open Go Go.Gd
end Go.Proofs.YtfkgcobaheegbaaGreatDoor
namespace Go.Gd
open Go
theorem xW{tl:List (Nat×Row)}(h:(ids tl).all (fun i=>decide (4<=i/\i<1000))=true:=by rfl):low tl:=fun i r hi=>of_decide_eq_true (List.all_eq_true.1 h i ((gX _ _).2 (by rw[hi];simp)))
end Go.Gd
namespace Go.Proofs.YtfkgcobaheegbaaGreatDoor
open Go Go.Gd
end Go.Proofs.YtfkgcobaheegbaaGreatDoor
