/- What a program means: its numbers are ints. What is seen: the document's. No conditions. -/
import Derived.Test.YtdekkklnfifphaaGreatDoorSoP
import Derived.Test.YtdekkklnfifphaaGreatDoorWd
import Derived.Test.YtdekkklnfifphaaGreatDoorViX
import Derived.Test.YtdekkklnfifphaaGreatDoorViJ
import Derived.Test.YtdekkklnfifphaaGreatDoorGdQ
set_option linter.all false
namespace Go.Proofs.YtdekkklnfifphaaGreatDoor
open Go Go.Gd
theorem jog (n:Int):rng (IntKind.i64.wrap n):=by unfold rng;rw [IntKind.wrap_i64];omega
theorem jf9:rng 0:=by unfold rng;omega
theorem jtx (b:Bool):rng (vB b).n:=by cases b<;>(show rng _;unfold vB rng;simp)
theorem jtA {a b:Int} (h:rng a):rng (a.tmod b):=by
 unfold rng at *
 by_cases h0:0≤a
 ·have h1:0≤a.tmod b:=Int.tmod_nonneg b h0
  have h2:a.tmod b≤a:=by
   have:=Int.mul_tdiv_add_tmod a b
   by_cases hb:b=0
   ·subst hb;simp
   ·have hn:=Int.natAbs_tmod a b
    have:(a.tmod b).natAbs≤a.natAbs:=by rw [hn];exact Nat.mod_le _ _
    omega
  omega
 ·have hn:=Int.natAbs_tmod a b
  have:(a.tmod b).natAbs≤a.natAbs:=by rw [hn];exact Nat.mod_le _ _
  have h3:a.tmod b≤0:=by
   have:=Int.tmod_nonneg b (a:=-a) (by omega)
   rw [Int.neg_tmod] at this
   omega
  omega
theorem jty (s:ByteArray) {a b:Int} (ha:rng a):rng (jj4 s a b).1.n:=by
 unfold jj4
 (repeat' split)<;>first | exact jog _ | exact jf9 | exact jtx _ | exact jtA ha
theorem jwa (s:ByteArray) {a b:GValue} (ha:rng a.n):rng (jp0 s a b).1.n:=by
 unfold jp0
 (repeat' split)<;>first | exact jty _ ha | exact jf9 | exact jtx _
theorem jof (s:ByteArray) (a:GValue):rng (jhk s a).n:=by
 unfold jhk
 (repeat' split)<;>first | exact jog _ | exact jf9 | exact jtx _
def jkG (l:List GValue):Prop:=∀ v∈l,rng v.n
def jtX (h:List (List Int)):Prop:=∀ l∈h,∀ x∈l,rng x
def j5w (p:GProg):Prop:=∀ k,k < p.tree.nodes.length→(nth p.tree.nodes k).kind=1→rng (nth p.tree.nodes k).n
theorem POk.rng {p:GProg} (h:POk p):j5w p:=fun k hk h1=>by
 obtain ⟨s,hs,e⟩:=(h.tree.shape k hk).1.num h1
 have hle:=jln hs
 have hnum:jif s=(jiJ s.data.toList 0:Nat):=by
  unfold jif
  rw [jid s hs.2.2 _ (Nat.le_refl _),List.take_of_length_le (by simp)]
 rw [e,hnum]
 unfold Go.Gd.rng;omega
theorem jkq {l:List GValue} (h:jkG l) (k t:Int):rng (jes l k t).n:=by
 unfold jes
 (repeat' split)<;>first | exact jf9 | exact h _ (jam (by omega))
theorem jtz {h:List (List Int)} (hr:jtX h) (v:GValue) (k:Nat) (hk:k < (jc7 h v).length):rng (nth (jc7 h v) k):=by
 unfold jc7 at hk ⊢
 split at hk
 ·simp at hk
 ·rename_i e
  rw [if_neg e]
  exact hr _ (jam (by omega)) _ (jam hk)
theorem jcI {c:Prop} [Decidable c] {x y:GValue×Int} (h:c→rng x.1.n) (k:¬ c→rng y.1.n):rng (if c then x else y).1.n:=by
 by_cases e:c
 ·rw [if_pos e];exact h e
 ·rw [if_neg e];exact k e
theorem joe {p:GProg} (h:POk p) {slots:List GValue} {heap:List (List Int)} (h1:jkG slots) (h2:jtX heap) (h3:∀ l∈heap,l.length≤1000000):∀ (n:Nat) (a:Int),0≤a→a.toNat < p.tree.nodes.length→a.toNat < n→isE (jak p.tree.nodes a)→rng (jbH p slots heap n a).1.n
 | 0,a,_,_,hn,_=>by omega
 | n+1,a,h0,hl,hn,hk=>by
  have sh:=h.tree.shape a.toNat hl
  have hk:1≤(nth p.tree.nodes a.toNat).kind∧(nth p.tree.nodes a.toNat).kind≤9:=hk
  have hlen:∀ v:GValue,((jc7 heap v).length:Int)≤1000000:=fun v=>by
   unfold jc7
   split
   ·simp
   ·have:=h3 _ (jam (l:=heap) (k:=(v.n - 1).toNat) (by omega));omega
  have hX:(∃ x y,(nth p.tree.nodes a.toNat).l=[x,y]∧isE (jak p.tree.nodes x))∨(∃ x,(nth p.tree.nodes a.toNat).l=[x]∧isE (jak p.tree.nodes x))∨(nth p.tree.nodes a.toNat).kind≤4:=by
   by_cases e:(nth p.tree.nodes a.toNat).kind=9
   ·obtain ⟨x,y,g1,g2,_⟩:=sh.1.two (.inl e);exact .inl ⟨x,y,g1,g2⟩
   ·by_cases e4:(nth p.tree.nodes a.toNat).kind≤4
    ·exact .inr (.inr e4)
    ·obtain ⟨x,g1,g2⟩:=sh.1.one (by omega);exact .inr (.inl ⟨x,g1,g2⟩)
  have hX0:4 < (nth p.tree.nodes a.toNat).kind→rng (jbH p slots heap n (nth (nth p.tree.nodes a.toNat).l 0)).1.n∧(jbH p slots heap n (nth (nth p.tree.nodes a.toNat).l 0)).1.s.size≤40:=fun hk4=>by
   have:∃ x,nth (nth p.tree.nodes a.toNat).l 0=x∧x∈(nth p.tree.nodes a.toNat).l∧isE (jak p.tree.nodes x):=by
    rcases hX with ⟨x,y,g1,g2⟩ | ⟨x,g1,g2⟩ | g
    ·exact ⟨x,by rw [g1];rfl,by rw [g1];simp,g2⟩
    ·exact ⟨x,by rw [g1];rfl,by rw [g1];simp,g2⟩
    ·omega
   obtain ⟨x,g1,g2,g3⟩:=this
   rw [g1]
   have hb:=sh.2.1 x g2
   exact ⟨joe h h1 h2 h3 n x hb.1 (by omega) (by omega) g3,(jhP h slots heap n x hb.1 (by omega) (by omega) g3).size⟩
  unfold jbH
  dsimp only
  generalize jbH p slots heap n (nth (nth p.tree.nodes a.toNat).l 0)=X at *
  generalize jbH p slots heap n (nth (nth p.tree.nodes a.toNat).l 1)=Y at *
  refine jcI (fun e=>h.rng _ hl e) fun e1=>jcI (fun _=>jtx _) fun e2=>jcI (fun _=>jf9) fun e3=>jcI (fun _=>jkq h1 _ _) fun e4=>?_
  obtain ⟨x1,x2⟩:=hX0 (by omega)
  refine jcI (fun _=>jf9) fun e5=>jcI (fun _=>jcI (fun _=>jf9) fun e=>jtz h2 _ _ (by omega)) fun e6=>jcI (fun _=>jcI (fun _=>x1) fun _=>jcI (fun _=>jf9) fun _=>jwa _ x1) fun e7=>jcI (fun _=>jcI (fun _=>?_) fun _=>?_) fun e8=>jcI (fun _=>jof _ _) fun _=>jof _ _
  ·show Go.Gd.rng (_:Int)
   unfold vI Go.Gd.rng;simp only;omega
  ·have:=hlen X.1
   show Go.Gd.rng (_:Int)
   unfold vI Go.Gd.rng;simp only;omega
structure RngR (R:RS):Prop where
 sl:∀ f∈R.frs,jkG f.slots
 hp:jtX R.heap
def RngS (s:GState):Prop:=RngR (RS.of s)
theorem RngR.upd {R:RS} (h:RngR R) (k:Nat) {f:GFrame} (hf:jkG f.slots):RngR (R.upd k f):=⟨fun g hg=>by
 rcases jea hg with rfl | hg
 ·exact hf
 ·exact h.sl g hg,h.hp⟩
theorem jjc {α:Type} [Inhabited α] (l:List α) (k:Nat):nth l k∈l∨nth l k=default:=by
 by_cases h:k < l.length
 ·exact .inl (jam h)
 ·right;unfold nth;rw [List.getD_eq_getElem?_getD,List.getElem?_eq_none (by omega)];rfl
theorem RngR.at_ {R:RS} (h:RngR R) (k:Nat):jkG (nth R.frs k).slots:=by
 rcases jjc R.frs k with e | e
 ·exact h.sl _ e
 ·rw [e];intro v hv;cases hv
theorem RngR.on {R:RS} (h:RngR R):RngR R.on:=h.upd _ (h.at_ _)
theorem jwb {l:List GValue} (h:jkG l) (k:Nat) {v:GValue} (hv:rng v.n):jkG (l.set k v):=fun x hx=>by
 rcases jea hx with rfl | hx
 ·exact hv
 ·exact h x hx
theorem RngR.setS {R:RS} (h:RngR R) (p:GProg) (a:Int) {v:GValue} (hv:rng v.n):RngR (R.setS p a v):=h.upd _ (jwb (h.at_ _) _ hv)
theorem RngR.store {R:RS} (h:RngR R) (p:GProg) (a:Int) {v:GValue} (hv:rng v.n):RngR (R.store p a v):=(h.setS p a hv).on
theorem RngR.tells {R:RS} (h:RngR R) (p:GProg) {v:GValue} (hv:rng v.n):RngR (R.tells p v):=by
 have hp:RngR R.pop:=⟨h.sl,h.hp⟩
 unfold RS.tells
 split
 ·exact ⟨h.sl,h.hp⟩
 split
 ·exact (hp.setS p _ hv).on
 ·exact hp.on
theorem RngR.cut {R:RS} (h:RngR R):RngR R.cut:=⟨fun g hg=>by
 rcases jea hg with rfl | hg
 ·exact h.at_ _
 ·exact h.sl g hg,h.hp⟩
theorem RngR.settle {p:GProg}:∀ (n:Nat) {R:RS},RngR R→RngR (jbM p n R)
 | 0,R,h=>h
 | n+1,R,h=>by
  unfold jbM
  split
  ·exact h
  split
  ·exact RngR.settle n (h.tells p jf9)
  split
  ·exact h
  ·exact RngR.settle n h.cut
theorem RngR.push {R:RS} (h:RngR R) {f:GFrame} (hf:jkG f.slots):RngR (R.push f):=⟨fun g hg=>by
 have hg:g∈R.frs++[f]:=hg
 rcases List.mem_append.1 hg with hg | hg
 ·exact h.sl g hg
 ·rw [List.mem_singleton] at hg;subst hg;exact hf,h.hp⟩
theorem RngR.deeper {R:RS} (h:RngR R) (b:Int):RngR (R.deeper b):=h.upd _ (h.at_ _)
theorem jod {p:GProg} (R:RS):∀ (l:List Int) (a:List GValue),(∀ x∈l,rng (R.val p x).1.n)→jkG a→jkG (R.args p l a).1
 | [],a,_,h=>by unfold RS.args;exact h
 | x::l,a,hl,h=>by
  unfold RS.args
  split
  ·exact h
  ·refine jod R l _ (fun y hy=>hl y (by simp [hy])) fun v hv=>?_
   rcases List.mem_append.1 hv with hv | hv
   ·exact h v hv
   ·rw [List.mem_singleton] at hv;subst hv;exact hl x (by simp)
theorem jlM (p:GProg) (fn:Int) {a:List GValue} (h:jkG a):jkG (jbP p fn a).slots:=fun v hv=>by
 have hv:v∈a++List.replicate _ v0:=hv
 rcases List.mem_append.1 hv with hv | hv
 ·exact h v hv
 ·rw [(List.mem_replicate.1 hv).2];exact jf9
theorem RngR.val {p:GProg} (hs:SOk p) {R:RS} (h:RngR R) (hc:jbB R.heap≤40) {x:Int} (h0:0≤x) (hl:x.toNat < p.tree.nodes.length) (hE:isE (jak p.tree.nodes x)):rng (R.val p x).1.n:=
 joe hs.ok (h.at_ _) h.hp (fun l hm=>by
  obtain ⟨k,hk,rfl⟩:=List.getElem_of_mem hm
  have:=jeA R.heap k hk
  rw [jbc hk] at this
  omega) _ x h0 hl (by omega) hE
theorem RngR.call {p:GProg} (hs:SOk p) {R:RS} (h:RngR R) (hc:jbB R.heap≤40) {a:Int} (hl:a.toNat < p.tree.nodes.length) (hk:(jaj p a).kind=21):RngR (R.call p a).1:=by
 have sh:=hs.ok.tree.shape a.toNat hl
 unfold RS.call
 simp only
 split
 ·exact h
 split
 ·exact h
 ·refine h.push (jlM p _ (jod R _ _ (fun x hx=>?_) fun v hv=>by cases hv))
  have:=sh.2.1 x hx
  exact h.val hs hc this.1 (by omega) (sh.1.call hk x hx)
theorem RngR.does {p:GProg} (hs:SOk p) {R:RS} (h:RngR R) (hc:jbB R.heap≤40) {node:Int} (h0:0≤node) (hl:node.toNat < p.tree.nodes.length) {inp:List Int} (hi:∀ x∈inp,rng x):RngR (R.does p node inp).1:=by
 have sh:=hs.ok.tree.shape node.toNat hl
 have kid:∀ x∈(jaj p node).l,0≤x∧x.toNat < p.tree.nodes.length:=fun x hx=>by have:=sh.2.1 x hx;omega
 have hv:∀ x∈(jaj p node).l,isE (jak p.tree.nodes x)→rng (R.val p x).1.n:=fun x hx hE=>h.val hs hc (kid x hx).1 (kid x hx).2 hE
 unfold RS.does
 simp only
 split
 ·rename_i e
  obtain ⟨a,ha,hr⟩:=sh.1.right e
  have hla:(jaj p node).l=[a]:=ha
  have ha0:=kid a (by rw [hla];simp)
  have hx:nth (jaj p node).l 0=a:=by rw [hla];rfl
  unfold RS.right
  simp only [hx]
  split
  ·rename_i e1;exact h.call hs hc ha0.2 e1
  split
  ·refine RngR.store (R:={ R with in_:=R.in_+1 }) ⟨h.sl,h.hp⟩ p node ?_
   show rng (nth inp _)
   rcases jjc inp R.in_.toNat with e | e
   ·exact hi _ e
   ·rw [e];exact jf9
  split
  ·unfold RS.fresh
   simp only
   have hf:∀ (n:Nat),RngR { R with heap:=R.heap++[List.replicate n 0] }:=fun n=>⟨h.sl,fun l hm=>by
    have hm:l∈R.heap++[List.replicate n 0]:=hm
    rcases List.mem_append.1 hm with hm | hm
    ·exact h.hp l hm
    ·rw [List.mem_singleton] at hm;subst hm;intro x hx;rw [(List.mem_replicate.1 hx).2];exact jf9⟩
   have hlen:=jbm R.heap
   have key:∀ r:RS×GValue×Int,RngR r.1→rng r.2.1.n→RngR (if r.2.2=0 then (r.1.store p node r.2.1,(0:Int)) else (r.1,r.2.2)).1:=fun r g1 g2=>by
    split
    ·exact g1.store p node g2
    ·exact g1
   refine key _ ?_ ?_
   ·(repeat' split)<;>first | exact h | exact hf _
   ·(repeat' split)<;>first | exact jf9 | (show rng (_:Int);unfold rng;simp only;omega)
  rename_i e1 e2 e3
  split
  ·refine h.store p node (hv a (by rw [hla];simp) ?_)
   have e1:jak p.tree.nodes a≠21:=e1
   have e2:jak p.tree.nodes a≠19:=e2
   have e3:jak p.tree.nodes a≠20:=e3
   rcases hr with hr | hr | hr | hr
   ·exact hr
   ·exact (e2 hr).elim
   ·exact (e3 hr).elim
   ·exact (e1 hr).elim
  ·exact h
 split
 ·rename_i e1
  obtain ⟨a,ha,hr⟩:=sh.1.do_ e1
  have hla:(jaj p node).l=[a]:=ha
  have ha0:=kid a (by rw [hla];simp)
  have hx:nth (jaj p node).l 0=a:=by rw [hla];rfl
  rw [hx]
  exact h.call hs hc ha0.2 hr
 split
 ·rename_i e2
  obtain ⟨x,y,hxy,hx,hy⟩:=sh.1.two (.inr e2)
  have hxy:(jaj p node).l=[x,y]:=hxy
  unfold RS.put
  simp only
  split
  ·exact h
  split
  ·exact h
  split
  ·exact h
  ·refine RngR.on ⟨h.sl,fun l hm=>?_⟩
   rcases jea hm with rfl | hm
   ·intro z hz
    rcases jea hz with rfl | hz
    ·rw [show nth (jaj p node).l 1=y by rw [hxy];rfl]
     exact hv y (by rw [hxy];simp) hy
    ·rcases jjc R.heap (((jes R.topF.slots (nth p.slots node.toNat) 4).n) - 1).toNat with e | e
     ·exact h.hp _ e z hz
     ·rw [e] at hz;cases hz
   ·exact h.hp l hm
 split
 ·rename_i e3
  split
  ·exact h.tells p jf9
  rename_i e4
  split
  ·exact h
  ·rcases sh.1.ret e3 with hl0 | ⟨a,hl0,hE⟩
   ·exact (e4 (by unfold jaj;rw [hl0];rfl)).elim
   ·have hl0:(jaj p node).l=[a]:=hl0
    rw [show nth (jaj p node).l 0=a by rw [hl0];rfl]
    exact h.tells p (hv a (by rw [hl0];simp) hE)
 split
 ·exact h
 split
 ·split
  ·exact h
  ·exact RngR.on ⟨h.sl,h.hp⟩
 split
 ·split
  ·exact h.on.deeper _
  split
  ·exact h.on.deeper _
  ·exact h.on
 split
 ·split
  ·exact h.deeper _
  ·exact h.on
 ·exact h
theorem RngR.st {R:RS} (h:RngR R):RngS R.st:=⟨fun f hf=>h.sl f (List.mem_of_mem_take hf),h.hp⟩
theorem RngS.with {s:GState} (h:RngS s) (c t n:Int):RngS { s with status:=c,trap:=t,time:=n }:=⟨h.sl,h.hp⟩
theorem jtH {p:GProg} (hs:SOk p) {s:GState} (hI:StInv p s) (h:RngS s) {inp:List Int} (hi:∀ x∈inp,rng x):RngS (jeR p s inp):=by
 unfold jeR
 split
 ·exact h
 rename_i h0
 split
 ·exact ⟨h.sl,h.hp⟩
 simp only
 split
 ·exact ⟨h.sl,h.hp⟩
 ·have h2:¬ (s.status=2∨s.status=3):=fun hh=>h0 (by unfold jbp;rw [if_pos hh];decide)
  have hd:=hI.doing (fun hh=>h2 (.inl hh)) 0 (by decide)
  obtain ⟨s0,s1,_⟩:=hd.stmt hs
  have hat:atV p (RS.of { s with status:=0 }).st=jbp p s:=by rw [RS.of_st];unfold jbp;rw [if_neg h2];rfl
  rw [hat] at s0 s1
  have hr:RngR (RS.of { s with status:=0 }):=⟨h.sl,h.hp⟩
  have:=hr.does hs hI.cells s0 s1 hi
  exact (RngR.settle _ (R:={ ((RS.of { s with status:=0 }).does p (jbp p s) inp).1 with time:=s.time+1 }) ⟨this.sl,this.hp⟩).st
end Go.Proofs.YtdekkklnfifphaaGreatDoor
namespace Go.Gd
open Go
theorem jjw {p:GProg} {node:Int} (hl:∀ b,(jaj p b).l.length≤300):∀ (n:Nat) (b:Int) (vars r:List GVar),ja2 p node n b vars=some r→r.length≤vars.length+300 * n
 | 0,b,vars,r,h=>by cases h
 | n+1,b,vars,r,h=>by
  have ih:=jjw (node:=node) hl n
  have kid:∀ (l:List Int) (vs r:List GVar),jet (ja2 p node n) vs l=some r→r.length≤vs.length+300 * n:=fun l=>by
   induction l with
   | nil=>intro vs r h;cases h
   | cons b l ihl=>
    intro vs r h
    unfold jet at h
    cases e:ja2 p node n b vs with
    | none=>rw [e] at h;exact ihl vs r h
    | some R=>rw [e] at h;cases h;exact ih b vs _ e
  have sc:∀ (l:List Int) (vs r:List GVar),jeh (ja2 p node n) p node l vs=some r→r.length≤vs.length+l.length+300 * n:=fun l=>by
   induction l with
   | nil=>intro vs r h;cases h
   | cons x l ihl=>
    intro vs r h
    have hlet:(jiH p x vs).length≤vs.length+1:=by unfold jiH;split<;>simp
    unfold jeh at h
    simp only [List.length_cons]
    split at h
    ·cases h;omega
    ·cases e:(if (jaj p x).kind=15∨(jaj p x).kind=16 then jet (ja2 p node n) (jiH p x vs) ((jaj p x).l.drop 1) else none) with
     | none=>rw [e] at h;have:=ihl _ r h;omega
     | some R=>
      rw [e] at h
      cases h
      split at e
      ·have:=kid _ _ _ e;omega
      ·cases e
  have:=sc _ _ _ h
  have:=hl b
  omega
theorem jgN (heap:List (List Int)) (slots:List GValue) (l:List GVar) (x:GVar) (s:List Int):jcb heap slots (l++[x]) s=jgM heap slots (jcb heap slots l s) x:=by unfold jcb;rw [List.foldl_append];rfl
theorem jfu (p:GProg) (heap:List (List Int)) (l:List GSpot) (x:GSpot):jbW p heap (l++[x])=jeY p heap (jbW p heap l) x:=by unfold jbW;rw [List.foldl_append];rfl
theorem jrs (l:List Int) (n:Int):(joj l n).length≤l.length+1:=by unfold joj;split<;>simp
theorem jov (heap:List (List Int)) (s:List Int) (v:GValue):(jdv heap s v).2.length≤s.length+1:=by
 have:=jrs s v.n
 unfold jdv
 (repeat' split)<;>first | (show s.length≤_;omega) | exact this
theorem jgi (heap:List (List Int)) (slots:List GValue):∀ (n:Nat) (l:List GVar) (s:List Int),l.length=n→(jcb heap slots l s).1.length=n∧(jcb heap slots l s).2.length≤s.length+n:=fun n=>by
 induction n with
 | zero=>intro l s h;rw [List.length_eq_zero_iff.1 h];exact ⟨rfl,Nat.le_refl _⟩
 | succ n ih=>
  intro l s h
  have e:l=l.take n++[l[n]'(by omega)]:=by rw [List.take_append_getElem,List.take_of_length_le (by omega)]
  rw [e,jgN]
  obtain ⟨a,b⟩:=ih (l.take n) s (by simp;omega)
  unfold jgM
  have:=jov heap (jcb heap slots (l.take n) s).2 (jes slots (l[n]'(by omega)).slot (l[n]'(by omega)).ty)
  exact ⟨by simp [a],by simp only;omega⟩
theorem jdQ (p:GProg) (heap:List (List Int)):∀ (n:Nat) (l:List GSpot),l.length=n→(jbW p heap l).1.length=n:=fun n=>by
 induction n with
 | zero=>intro l h;rw [List.length_eq_zero_iff.1 h];rfl
 | succ n ih=>
  intro l h
  have e:l=l.take n++[l[n]'(by omega)]:=by rw [List.take_append_getElem,List.take_of_length_le (by omega)]
  rw [e,jfu]
  have a:=ih (l.take n) (by simp;omega)
  unfold jeY
  simp [a]
end Go.Gd
namespace Go.Proofs.YtdekkklnfifphaaGreatDoor
open Go Go.Gd
set_option maxHeartbeats 8000000
set_option maxRecDepth 10000
theorem jkE {p:GProg} (h:POk p) (hfn:∀ k,k < p.tree.nodes.length→0≤nth p.fn k∧nth p.fn k < p.tree.fns.length) {node:Int} (h1:node.toNat < p.tree.nodes.length):(jiS p node).length≤100000:=by
 obtain ⟨f0,f1⟩:=hfn _ h1
 have hft:(nth p.fn node.toNat).toNat < p.tree.fns.length:=by omega
 have hps:=(h.tree.fn _ (jam hft)).2
 have hm:=h.tree.many
 unfold jiS
 cases e:ja2 p node p.tree.nodes.length (nth p.tree.fns (nth p.fn node.toNat).toNat).body (jfm (nth p.tree.fns (nth p.fn node.toNat).toNat).params 0) with
 | none=>exact Nat.zero_le _
 | some R=>
  have:=jjw (jkf h) _ _ _ _ e
  rw [jfE] at this
  show R.length≤_
  omega
theorem jhX (slots:List GValue) (k t:Int):(jes slots k t).s.size≤40:=by
 unfold jes
 split
 ·exact Nat.zero_le _
 split
 ·rename_i h;exact jnV h.1
 ·exact Nat.zero_le _
structure ShotOk (p:GProg) (s:GShot):Prop where
 calls:s.calls.length≤8
 fn:∀ k,k < s.calls.length→0≤(nth s.calls k).fn∧(nth s.calls k).fn < p.tree.fns.length
 node:∀ k,k < s.calls.length→0≤(nth s.calls k).node∧(nth s.calls k).node.toNat < p.tree.nodes.length
 sl:∀ k,k < s.calls.length→jkG (nth s.calls k).slots∧(nth s.calls k).slots.length≤1000
 hp:jtX s.heap
 hl:s.heap.length≤1000
 hls:∀ k,k < s.heap.length→(nth s.heap k).length≤1000
theorem jzs {p:GProg} (h:POk p) (hfn:∀ k,k < p.tree.nodes.length→0≤nth p.fn k∧nth p.fn k < p.tree.fns.length) {s:GShot} (ho:ShotOk p s):PCall Tryz.prog 49 [.agg (jah p),.agg (jcc s)] (.agg (ja4 (ofV p s))):=by
 have hcl:=ho.calls
 have hhl:=ho.hl
 refine jbO Tryz.func49 Tryz.ntmps49 ?_
 (repeat' (first|refine jaa fun K hK=>?_|refine wkA ?_|(refine hK _ _ ?_;clear hK K)|(refine jad (fun hc=>?_) (fun hc=>?_)<;>first | contradiction | (exfalso;omega) | skip)|refine bx 0 ?_|refine bx 1 ?_|refine al 2 ?_|refine al 3 ?_|refine jsg 4 ?_|refine wkB ?_|exact True.intro|(clear hK K)))
 refine jaD (FLe.nilC 9 3 0 56 3 rfl (by decide) rfl rfl) ?_
 (refine S ?_;try exact True.intro)
 have hKo:=hK;clear hK
 have hc0:(jbW p s.heap []).2.length=0:=rfl
 refine jag (S:=Nat) [(6,9),(25,135)] (fun i=>i≤s.calls.length∧(jbW p s.heap (s.calls.take i)).2.length≤100000 * i) (fun i=>[(7,rI i),(6,.rs 4 (jbW p s.heap (s.calls.take i)).2.length 1 (jbW p s.heap (s.calls.take i)).2.length)]) (fun i=>⟨[],[(0,.var 29 (jah p)),(1,.var 38 (jcc s)),(2,.var 52 [.raw (.slice none 0 0),.raw (.slice none 0 0),rI 0,rI 0,rI 0]),(3,.var 52 [.rs 9 i 3 i,jaI eS 1 s.out_,rI s.in_,rI s.status,rI s.trap]),(4,.vec 3 1 ((jbW p s.heap (s.calls.take i)).2.map eI)),(9,.vec 56 3 ((jbW p s.heap (s.calls.take i)).1.map jbC))]⟩) (fun i=>s.calls.length - i) 0 ⟨by omega,Nat.zero_le _⟩ (jau rfl lle) ?_
 rintro i ⟨hi1,hi2⟩ Kr hKr
 by_cases hlt:i < s.calls.length
 rotate_left
 ·have hie:i=s.calls.length:=by omega
  subst hie
  rw [List.take_length] at *
  have hcl1:(jbW p s.heap s.calls).1.length=s.calls.length:=jdQ p s.heap _ _ rfl
  (refine S ?_;try exact True.intro)
  (repeat' (first|refine jaa fun K hK=>?_|refine wkA ?_|(refine hK _ _ ?_;clear hK K)|(refine jad (fun hc=>?_) (fun hc=>?_)<;>first | contradiction | (exfalso;omega) | skip)|(refine hKo _ _ ?_)|refine wkB ?_|exact True.intro|(clear hK K)))
  refine jfG [.cell 4 52] ?_
  refine VToL.agg (ds:=ja4 (ofV p s)) ⟨VTo.row (jbW p s.heap s.calls).1 rfl rfl hcl1.symm,.same _ rfl,.same _ rfl,.same _ rfl,.same _ rfl,trivial⟩
 obtain ⟨n0,n1⟩:=ho.node i hlt
 obtain ⟨f0,f1⟩:=ho.fn i hlt
 obtain ⟨hsr,hsl⟩:=ho.sl i hlt
 have hvl:=jkE h hfn n1
 have hvis:=j0h h hfn _ n0 n1
 have hcsv:=jfu p s.heap (s.calls.take i) (nth s.calls i)
 rw [← ja8 hlt] at hcsv
 have hci:(jbW p s.heap (s.calls.take i)).1.length=i:=jdQ p s.heap i _ (by simp;omega)
 generalize jbW p s.heap (s.calls.take i)=C at *
 generalize hc:nth s.calls i=c at *
 unfold jeY at hcsv
 generalize hV:jiS p c.node=V at *
 (refine S ?_;try exact True.intro)
 (have W:=hc;repeat' (first|refine jaa fun K hK=>?_|refine wkA ?_|(with_reducible refine gR 7 ?_);refine dE 7 [0,1,2,3,4,5,6,7,8,9,10,11,12,13,14,15,16,17,18] mixed ?_|(refine hK _ _ ?_;clear hK K)|(refine jad (fun hc=>?_) (fun hc=>?_)<;>first | contradiction | (exfalso;omega) | skip)|refine al 5 ?_|refine al 6 ?_|refine cp (hvis) ?_|refine wkB ?_|exact True.intro|(clear hK K)));all_goals (try clear W)
 refine jaD (FLe.nilC 7 6 2 58 2 rfl (by decide) rfl rfl) ?_
 (refine S ?_;try exact True.intro)
 have hKb:=hK;clear hK
 have hKa:=hK;clear hK
 have hA0:(jcb s.heap c.slots [] C.2).2.length=C.2.length:=rfl
 refine jag (S:=Nat) [(6,1),(11,4),(58,96)] (fun k=>k≤V.length) (fun k=>[(11,rI k),(6,.rs 4 (jcb s.heap c.slots (V.take k) C.2).2.length 1 (jcb s.heap c.slots (V.take k) C.2).2.length)]) (fun k=>⟨[],[(0,.var 29 (jah p)),(1,.var 38 (jcc s)),(2,.var 52 [.raw (.slice none 0 0),.raw (.slice none 0 0),rI 0,rI 0,rI 0]),(3,.var 52 [.rs 9 i 3 i,jaI eS 1 s.out_,rI s.in_,rI s.status,rI s.trap]),(4,.vec 3 1 ((jcb s.heap c.slots (V.take k) C.2).2.map eI)),(9,.vec 56 3 (C.1.map jbC)),(5,.var 47 (jb4 c)),(6,.var 56 [rS (nth p.tree.fns c.fn.toNat).name,rI (nth p.tree.nodes c.node.toNat).line,.rs 7 k 2 k]),(7,.vec 58 2 ((jcb s.heap c.slots (V.take k) C.2).1.map jbb))]⟩) (fun k=>V.length - k) 0 (by omega) (jau rfl lle) ?_
 rintro k hk Ks hKs
 obtain ⟨hkl,hks⟩:=jgi s.heap c.slots k (V.take k) C.2 (by simp;omega)
 by_cases hkv:k < V.length
 rotate_left
 ·have hke:k=V.length:=by omega
  subst hke
  rw [List.take_length] at *
  generalize jcb s.heap c.slots V C.2=A at *
  (refine S ?_;try exact True.intro)
  (repeat' (first|refine jkM (id:=28) [7] 6 [rS (nth p.tree.fns c.fn.toNat).name,rI (nth p.tree.nodes c.node.toNat).line,jaI jbb 2 A.1] [] [] ?_|refine jaa fun K hK=>?_|refine wkA ?_|(refine hK _ _ ?_;clear hK K)|(refine jad (fun hc=>?_) (fun hc=>?_)<;>first | contradiction | (exfalso;omega) | skip)|(refine hKb _ _ ?_)|(refine hKa _ _ ?_)|refine wkB ?_|exact True.intro|(clear hK K)))
  have hCs:C.2.length≤100000 * i:=hi2
  refine hKr _ _ (jaM [5,6] (i+1) ⟨by omega,by rw [hcsv];show A.2.length≤_;omega⟩ (by show s.calls.length - (i+1) < s.calls.length - i;omega) rfl Sd ?_ ?_)
  ·show Hp.mk _ [_,_,_,_,_,(9,_)]=Hp.mk _ [_,_,_,_,(4,.vec _ _ (List.map eI (jbW p s.heap (s.calls.take (i+1))).2)),(9,.vec _ _ (List.map jbC (jbW p s.heap (s.calls.take (i+1))).1))]
   rw [hcsv,List.map_append];rfl
  ·rw [hcsv];exact vtl
 have hsn:=jgN s.heap c.slots (V.take k) (nth V k) C.2
 rw [← ja8 hkv] at hsn
 generalize jcb s.heap c.slots (V.take k) C.2=A at *
 generalize hxd:nth V k=x at *
 have hget:=jnC c.slots x.slot x.ty
 have hgr:=jkq hsr x.slot x.ty
 have hgs:=jhX c.slots x.slot x.ty
 unfold jgM at hsn
 generalize jes c.slots x.slot x.ty=X at *
 have hquo:=jrh X hgr (by omega)
 by_cases hX4:X.ty=4
 ·by_cases hXr:1≤X.n∧X.n≤s.heap.length
  ·have hL1:=ho.hls (X.n - 1).toNat (by omega)
   have hLr:∀ y∈nth s.heap (X.n - 1).toNat,rng y:=fun y hy=>ho.hp _ (jam (by omega)) y hy
   have htx:jdv s.heap A.2 X=(jmH (joj A.2 X.n) X.n (nth s.heap (X.n - 1).toNat),joj A.2 X.n):=by unfold jdv;rw [if_pos hX4,if_pos hXr]
   rw [htx] at hsn
   simp only at hsn
   unfold jmH at hsn
   generalize hL:nth s.heap (X.n - 1).toNat=L at *
   have hpl:=jlx A.2 X.n (by omega)
   have hps:=jik X.n A.2 0 (by omega)
   by_cases hpos:jee X.n A.2 0 < 0
   ·have hS':joj A.2 X.n=A.2++[X.n]:=by unfold joj;rw [if_pos hpos]
    rw [hS'] at hsn
    have hpl2:=jlx (A.2++[X.n]) X.n (by simp;omega)
    have hps2:=jik X.n (A.2++[X.n]) 0 (by omega)
    have hS'l:(A.2++[X.n]).length=A.2.length+1:=by simp
    generalize hP2:jee X.n (A.2++[X.n]) 0=P2 at *
    have hit2:=jcY (P2+1) (by unfold rng;omega)
    have his2:=jbe (n:=P2+1) (by unfold rng;omega)
    (refine S ?_;try exact True.intro)
    (have W:=And.intro hxd (And.intro hkl (hX4));repeat' (first|refine jaa fun K hK=>?_|refine wkA ?_|(with_reducible refine gR 12 ?_);refine dL 12 [] [13] [0,1,2,3,4,5,6,7,8,9,10,11,12,13,14] mixed ?_|(refine hK _ _ ?_;clear hK K)|(refine jad (fun hc=>?_) (fun hc=>?_)<;>first | contradiction | (exfalso;omega) | skip)|refine al 8 ?_|refine cp (hget) ?_|refine cp (hquo) ?_|refine cp (hit2) ?_|(refine cL (args':=[jaI eI 1 A.2,rI X.n]) hpl ⟨VTo.row A.2 rfl rfl rfl,.same _ rfl,trivial⟩ rfl (by simp only [go_sem]) ?_;(refine S ?_;try exact True.intro))|(refine cL (args':=[jaI eI 1 (A.2++[X.n]),rI X.n]) hpl2 ⟨VTo.row (A.2++[X.n]) rfl (by show some (Row.vec _ _ (List.map eI A.2++[[rI X.n]]))=some (Row.vec _ _ (List.map eI (A.2++[X.n])));rw [List.map_append];rfl) (by simp),.same _ rfl,trivial⟩ rfl (by simp only [go_sem]) ?_;(refine S ?_;try exact True.intro))|refine wkB ?_|exact True.intro|(clear hK K)));all_goals (try clear W)
    generalize hT0:(⟨#[35]⟩:ByteArray)++jbJ (P2+1)++(⟨#[91]⟩:ByteArray)=T0 at *
    have hT0s:T0.size≤30:=by rw [← hT0,ByteArray.size_append,ByteArray.size_append];show 1+(jbJ (P2+1)).size+1≤30;omega
    have hKd:=hK;clear hK
    have hKe:=hK;clear hK
    have hKf:=hK;clear hK
    have hT:∀ j,(jch (L.take j) false T0).size≤100000:=fun j=>by
     have:=jeZ (L.take j) false T0 fun x hx=>hLr x (List.mem_of_mem_take hx)
     have:(L.take j).length≤L.length:=by simp;omega
     omega
    refine jag (S:=Nat) [(13,2),(111,29)] (fun j=>j≤L.length) (fun j=>[(14,rI j),(13,rS (jch (L.take j) false T0))]) (fun j=>⟨[],[(0,.var 29 (jah p)),(1,.var 38 (jcc s)),(2,.var 52 [.raw (.slice none 0 0),.raw (.slice none 0 0),rI 0,rI 0,rI 0]),(3,.var 52 [.rs 9 i 3 i,jaI eS 1 s.out_,rI s.in_,rI s.status,rI s.trap]),(4,.vec 3 1 (A.2.map eI++[eI X.n])),(9,.vec 56 3 (C.1.map jbC)),(5,.var 47 (jb4 c)),(6,.var 56 [rS (nth p.tree.fns c.fn.toNat).name,rI (nth p.tree.nodes c.node.toNat).line,.rs 7 k 2 k]),(7,.vec 58 2 (A.1.map jbb)),(8,.var 49 (jan X))]⟩) (fun j=>L.length - j) 0 (by omega) (jau rfl lle) ?_
    rintro j hj Ku hKu
    have hTj:=hT j
    by_cases hjl:j < L.length
    ·have hit:=jcY (nth L j) (hLr _ (jam hjl))
     have hisz:=jbe (hLr _ (jam hjl))
     have hsnj:=jgs (L.take j) false T0 (nth L j)
     rw [← ja8 hjl] at hsnj
     have hne:(L.take j≠[])↔0 < j:=by
      constructor
      ·intro h;apply Nat.pos_of_ne_zero;intro e;subst e;exact h rfl
      ·intro h e;have:=congrArg List.length e;rw [List.length_take] at this;simp only [List.length_nil] at this;omega
     generalize jch (L.take j) false T0=T at *
     by_cases hj0:0 < j
     ·rw [if_pos (.inr (hne.2 hj0))] at hsnj
      (refine S ?_;try exact True.intro)
      (have W:=hL;repeat' (first|refine jaa fun K hK=>?_|refine wkA ?_|(refine hK _ _ ?_;clear hK K)|(refine jad (fun hc=>?_) (fun hc=>?_)<;>first | contradiction | (exfalso;omega) | skip)|refine cp (hit) ?_|refine wkB ?_|exact True.intro|(clear hK K)));all_goals (try clear W)
      refine hKu _ _ (jar (j+1) (by omega) (by show L.length - (j+1) < L.length - j;omega) rfl (by rw [hsnj];exact lle))
     ·rw [if_neg (fun e=>by rcases e with e | e;cases e;exact hj0 (hne.1 e))] at hsnj
      (refine S ?_;try exact True.intro)
      (have W:=hL;repeat' (first|refine jaa fun K hK=>?_|refine wkA ?_|(refine hK _ _ ?_;clear hK K)|(refine jad (fun hc=>?_) (fun hc=>?_)<;>first | contradiction | (exfalso;omega) | skip)|refine cp (hit) ?_|refine wkB ?_|exact True.intro|(clear hK K)));all_goals (try clear W)
      refine hKu _ _ (jar (j+1) (by omega) (by show L.length - (j+1) < L.length - j;omega) rfl (by rw [hsnj];exact lle))
    ·have hje:j=L.length:=by omega
     subst hje
     rw [List.take_length] at hTj ⊢
     (refine S ?_;try exact True.intro)
     (have W:=And.intro hkl (And.intro hxd (hL));repeat' (first|refine jaa fun K hK=>?_|refine wkA ?_|(with_reducible refine gR 27 ?_);refine dE 27 [0,1,2,3,4,5,6,7,8,9,10,11,12] mixed ?_|(refine hK _ _ ?_;clear hK K)|(refine jad (fun hc=>?_) (fun hc=>?_)<;>first | contradiction | (exfalso;omega) | skip)|(refine hKd _ _ ?_)|(refine hKe _ _ ?_)|(refine hKf _ _ ?_)|refine wkB ?_|exact True.intro|(clear hK K)));all_goals (try clear W)
     refine hKs _ _ (jaM [8] (k+1) (by omega) (by show V.length - (k+1) < V.length - k;omega) rfl Sd ?_ ?_)
     ·show Hp.mk _ [_,_,_,_,(4,_),_,_,_,(7,_)]=Hp.mk _ [_,_,_,_,(4,.vec _ _ (List.map eI (jcb s.heap c.slots (V.take (k+1)) C.2).2)),_,_,_,(7,.vec _ _ (List.map jbb (jcb s.heap c.slots (V.take (k+1)) C.2).1))]
      rw [hsn];simp only [List.map_append];rfl
     ·rw [hsn];exact vtl
   ·have hS':joj A.2 X.n=A.2:=by unfold joj;rw [if_neg hpos]
    rw [hS'] at hsn
    generalize hP2:jee X.n A.2 0=P2 at *
    have hit2:=jcY (P2+1) (by unfold rng;omega)
    have his2:=jbe (n:=P2+1) (by unfold rng;omega)
    (refine S ?_;try exact True.intro)
    (have W:=And.intro hxd (And.intro hkl (hX4));repeat' (first|refine jaa fun K hK=>?_|refine wkA ?_|(with_reducible refine gR 12 ?_);refine dL 12 [] [13] [0,1,2,3,4,5,6,7,8,9,10,11,12,13,14] mixed ?_|(refine hK _ _ ?_;clear hK K)|(refine jad (fun hc=>?_) (fun hc=>?_)<;>first | contradiction | (exfalso;omega) | skip)|refine al 8 ?_|refine cp (hget) ?_|refine cp (hquo) ?_|refine cp (hit2) ?_|(refine cL (args':=[jaI eI 1 A.2,rI X.n]) hpl ⟨VTo.row A.2 rfl rfl rfl,.same _ rfl,trivial⟩ rfl (by simp only [go_sem]) ?_;(refine S ?_;try exact True.intro))|refine wkB ?_|exact True.intro|(clear hK K)));all_goals (try clear W)
    generalize hT0:(⟨#[35]⟩:ByteArray)++jbJ (P2+1)++(⟨#[91]⟩:ByteArray)=T0 at *
    have hT0s:T0.size≤30:=by rw [← hT0,ByteArray.size_append,ByteArray.size_append];show 1+(jbJ (P2+1)).size+1≤30;omega
    have hKd:=hK;clear hK
    have hKe:=hK;clear hK
    have hKf:=hK;clear hK
    have hT:∀ j,(jch (L.take j) false T0).size≤100000:=fun j=>by
     have:=jeZ (L.take j) false T0 fun x hx=>hLr x (List.mem_of_mem_take hx)
     have:(L.take j).length≤L.length:=by simp;omega
     omega
    refine jag (S:=Nat) [(13,2),(111,29)] (fun j=>j≤L.length) (fun j=>[(14,rI j),(13,rS (jch (L.take j) false T0))]) (fun j=>⟨[],[(0,.var 29 (jah p)),(1,.var 38 (jcc s)),(2,.var 52 [.raw (.slice none 0 0),.raw (.slice none 0 0),rI 0,rI 0,rI 0]),(3,.var 52 [.rs 9 i 3 i,jaI eS 1 s.out_,rI s.in_,rI s.status,rI s.trap]),(4,.vec 3 1 ((A.2).map eI)),(9,.vec 56 3 (C.1.map jbC)),(5,.var 47 (jb4 c)),(6,.var 56 [rS (nth p.tree.fns c.fn.toNat).name,rI (nth p.tree.nodes c.node.toNat).line,.rs 7 k 2 k]),(7,.vec 58 2 (A.1.map jbb)),(8,.var 49 (jan X))]⟩) (fun j=>L.length - j) 0 (by omega) (jau rfl lle) ?_
    rintro j hj Ku hKu
    have hTj:=hT j
    by_cases hjl:j < L.length
    ·have hit:=jcY (nth L j) (hLr _ (jam hjl))
     have hisz:=jbe (hLr _ (jam hjl))
     have hsnj:=jgs (L.take j) false T0 (nth L j)
     rw [← ja8 hjl] at hsnj
     have hne:(L.take j≠[])↔0 < j:=by
      constructor
      ·intro h;apply Nat.pos_of_ne_zero;intro e;subst e;exact h rfl
      ·intro h e;have:=congrArg List.length e;rw [List.length_take] at this;simp only [List.length_nil] at this;omega
     generalize jch (L.take j) false T0=T at *
     by_cases hj0:0 < j
     ·rw [if_pos (.inr (hne.2 hj0))] at hsnj
      (refine S ?_;try exact True.intro)
      (have W:=hL;repeat' (first|refine jaa fun K hK=>?_|refine wkA ?_|(refine hK _ _ ?_;clear hK K)|(refine jad (fun hc=>?_) (fun hc=>?_)<;>first | contradiction | (exfalso;omega) | skip)|refine cp (hit) ?_|refine wkB ?_|exact True.intro|(clear hK K)));all_goals (try clear W)
      refine hKu _ _ (jar (j+1) (by omega) (by show L.length - (j+1) < L.length - j;omega) rfl (by rw [hsnj];exact lle))
     ·rw [if_neg (fun e=>by rcases e with e | e;cases e;exact hj0 (hne.1 e))] at hsnj
      (refine S ?_;try exact True.intro)
      (have W:=hL;repeat' (first|refine jaa fun K hK=>?_|refine wkA ?_|(refine hK _ _ ?_;clear hK K)|(refine jad (fun hc=>?_) (fun hc=>?_)<;>first | contradiction | (exfalso;omega) | skip)|refine cp (hit) ?_|refine wkB ?_|exact True.intro|(clear hK K)));all_goals (try clear W)
      refine hKu _ _ (jar (j+1) (by omega) (by show L.length - (j+1) < L.length - j;omega) rfl (by rw [hsnj];exact lle))
    ·have hje:j=L.length:=by omega
     subst hje
     rw [List.take_length] at hTj ⊢
     (refine S ?_;try exact True.intro)
     (have W:=And.intro hkl (And.intro hxd (hL));repeat' (first|refine jaa fun K hK=>?_|refine wkA ?_|(with_reducible refine gR 27 ?_);refine dE 27 [0,1,2,3,4,5,6,7,8,9,10,11,12] mixed ?_|(refine hK _ _ ?_;clear hK K)|(refine jad (fun hc=>?_) (fun hc=>?_)<;>first | contradiction | (exfalso;omega) | skip)|(refine hKd _ _ ?_)|(refine hKe _ _ ?_)|(refine hKf _ _ ?_)|refine wkB ?_|exact True.intro|(clear hK K)));all_goals (try clear W)
     refine hKs _ _ (jaM [8] (k+1) (by omega) (by show V.length - (k+1) < V.length - k;omega) rfl Sd ?_ ?_)
     ·show Hp.mk _ [_,_,_,_,(4,_),_,_,_,(7,_)]=Hp.mk _ [_,_,_,_,(4,.vec _ _ (List.map eI (jcb s.heap c.slots (V.take (k+1)) C.2).2)),_,_,_,(7,.vec _ _ (List.map jbb (jcb s.heap c.slots (V.take (k+1)) C.2).1))]
      rw [hsn];simp only [List.map_append];rfl
     ·rw [hsn];exact vtl
  ·have htx:jdv s.heap A.2 X=((⟨#[35,48,91,93]⟩:ByteArray),A.2):=by unfold jdv;rw [if_pos hX4,if_neg hXr]
   rw [htx] at hsn
   (refine S ?_;try exact True.intro)
   (have W:=And.intro hxd (And.intro hkl (hX4));repeat' (first|refine jaa fun K hK=>?_|refine wkA ?_|(with_reducible refine gR 12 ?_);refine dL 12 [] [13] [0,1,2,3,4,5,6,7,8,9,10,11,12,13,14] mixed ?_|(with_reducible refine gR 27 ?_);refine dE 27 [0,1,2,3,4,5,6,7,8,9,10,11,12] mixed ?_|(refine hK _ _ ?_;clear hK K)|(refine jad (fun hc=>?_) (fun hc=>?_)<;>first | contradiction | (exfalso;omega) | skip)|refine al 8 ?_|refine cp (hget) ?_|refine cp (hquo) ?_|refine wkB ?_|exact True.intro|(clear hK K)));all_goals (try clear W)
   refine hKs _ _ (jaM [8] (k+1) (by omega) (by show V.length - (k+1) < V.length - k;omega) rfl Sd ?_ ?_)
   ·show Hp.mk _ [_,_,_,_,(4,_),_,_,_,(7,_)]=Hp.mk _ [_,_,_,_,(4,.vec _ _ (List.map eI (jcb s.heap c.slots (V.take (k+1)) C.2).2)),_,_,_,(7,.vec _ _ (List.map jbb (jcb s.heap c.slots (V.take (k+1)) C.2).1))]
    rw [hsn];simp only [List.map_append];rfl
   ·rw [hsn];exact vtl
 ·have htx:jdv s.heap A.2 X=(jef X,A.2):=by unfold jdv;rw [if_neg hX4]
  rw [htx] at hsn
  (refine S ?_;try exact True.intro)
  (have W:=And.intro hxd (And.intro hkl (hX4));repeat' (first|refine jaa fun K hK=>?_|refine wkA ?_|(with_reducible refine gR 12 ?_);refine dL 12 [] [13] [0,1,2,3,4,5,6,7,8,9,10,11,12,13,14] mixed ?_|(with_reducible refine gR 27 ?_);refine dE 27 [0,1,2,3,4,5,6,7,8,9,10,11,12] mixed ?_|(refine hK _ _ ?_;clear hK K)|(refine jad (fun hc=>?_) (fun hc=>?_)<;>first | contradiction | (exfalso;omega) | skip)|refine al 8 ?_|refine cp (hget) ?_|refine cp (hquo) ?_|refine wkB ?_|exact True.intro|(clear hK K)));all_goals (try clear W)
  refine hKs _ _ (jaM [8] (k+1) (by omega) (by show V.length - (k+1) < V.length - k;omega) rfl Sd ?_ ?_)
  ·show Hp.mk _ [_,_,_,_,(4,_),_,_,_,(7,_)]=Hp.mk _ [_,_,_,_,(4,.vec _ _ (List.map eI (jcb s.heap c.slots (V.take (k+1)) C.2).2)),_,_,_,(7,.vec _ _ (List.map jbb (jcb s.heap c.slots (V.take (k+1)) C.2).1))]
   rw [hsn];simp only [List.map_append];rfl
  ·rw [hsn];exact vtl
end Go.Proofs.YtdekkklnfifphaaGreatDoor
