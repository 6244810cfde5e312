/- A state that goes on, as things of one's own. What a program means: a call that ends. What a program means: what holds of a state that goes on. What a program means, step by step, as functions. No conditions. -/
import Derived.Test.YtfkgcobaheegbaaGreatDoorGdTm
import Derived.Test.YtfkgcobaheegbaaGreatDoorGdY
import Derived.Test.YtfkgcobaheegbaaGreatDoorGdR
import Derived.Test.YtfkgcobaheegbaaGreatDoorSlF
import Derived.Test.YtfkgcobaheegbaaGreatDoorLxT
import Derived.Test.YtfkgcobaheegbaaGreatDoorEvS
import Derived.Lib.ItoaNum
set_option linter.all false
namespace Go.Gd
open Go
structure RS where
 frs:List GFrame
 nf:Nat
 jp:List (List GPlace)
 heap:List (List Int)
 in_:Int
 out_:List ByteArray
 status:Int
 trap:Int
 time:Int
namespace RS
def st (R:RS):GState:=⟨R.frs.take R.nf,R.heap,R.in_,R.out_,R.status,R.trap,R.time⟩
structure Ok (R:RS):Prop where
 nf:R.nf≤R.frs.length
 jp:R.jp.length=R.frs.length
def fr (R:RS) (k:Nat):List AV:=[.raw (.int .i64 (nth R.frs k).fn),.rs (fid 0 k) (nth R.frs k).slots.length 3 (nth R.frs k).slots.length,.rs (fid 1 k) ((nth R.frs k).path.length+(nth R.jp k).length) 2 (nth R.frs k).path.length]
def sl (R:RS) (k:Nat):Row:=.vec 59 3 ((nth R.frs k).slots.map jag)
def pt (R:RS) (k:Nat):Row:=.vec 89 2 (((nth R.frs k).path++nth R.jp k).map jay)
def hp (R:RS) (k:Nat):Row:=.vec 3 1 ((nth R.heap k).map eI)
def c (R:RS):List AV:=[.rs 1 R.frs.length 3 R.nf,.rs 2 R.heap.length 1 R.heap.length,.raw (.int .i64 R.in_),.rs 3 R.out_.length 1 R.out_.length,.raw (.int .i64 R.status),.raw (.int .i64 R.trap),.raw (.int .i64 R.time)]
def e (t:TypeId) (pre post:List AV) (R:RS) (tl:List (Nat×Row)):List (Nat×Row):=
 (0,.var t (pre++R.c++post))::(1,.vec 57 3 (tab R.frs.length R.fr))::(2,.vec 22 1 (tab R.heap.length fun k=>[.rs (fid 2 k) (nth R.heap k).length 1 (nth R.heap k).length]))::(3,.vec 9 1 (R.out_.map eS)) ::
  fam 0 R.frs.length R.sl (fam 1 R.frs.length R.pt (fam 2 R.heap.length R.hp tl))
end RS
attribute [go_sem] RS.fr RS.sl RS.pt RS.hp RS.c RS.e
theorem RS.e_mk {t:TypeId} {pre post:List AV} {R:RS} {tl tl':List (Nat×Row)} {c0:List AV} {n n1 n2 nh nh':Nat} {fr hr:Nat→List AV} {o:List (List AV)} {s p q:Nat→Row}
  (hc:c0=pre++R.c++post) (hn:n=R.frs.length) (hf:∀ k,k < n→fr k=R.fr k) (hh:nh=R.heap.length) (hr':∀ k,k < nh→hr k=[.rs (fid 2 k) (nth R.heap k).length 1 (nth R.heap k).length]) (ho:o=R.out_.map eS)
  (h1:n1=n) (h2:n2=n) (h3:nh'=nh) (hs:∀ k,k < n→s k=R.sl k) (hp:∀ k,k < n→p k=R.pt k) (hq:∀ k,k < nh→q k=R.hp k) (ht:tl=tl') :
  (0,.var t c0)::(1,.vec 57 3 (tab n fr))::(2,.vec 22 1 (tab nh hr))::(3,.vec 9 1 o)::fam 0 n1 s (fam 1 n2 p (fam 2 nh' q tl))=R.e t pre post tl':=by
 subst hc ho h1 h2 h3 ht
 unfold RS.e
 rw [jch hn hf,jch hh hr',jfH hn hs (jfH hn hp (jfH hh hq rfl))]
theorem nth_upd {α:Type} [Inhabited α] (l:List α) (i k:Nat) (v:α) (h:i < l.length):nth (l.set i v) k=if k=i then v else nth l k:=by
 unfold nth
 rw [List.getD_eq_getElem?_getD,List.getElem?_set,List.getD_eq_getElem?_getD]
 by_cases e:i=k
 ·subst e;simp [h]
 ·rw [if_neg e,if_neg (fun h=>e h.symm)]
theorem VTo.rowCut {D:Nat→Bool} {H:Hp} {dd:List AV} {i sz m n:Nat} {e:TypeId} {α:Type} {enc:α→List AV} [he:EncOK enc sz] (l more:List α) (hD:D i=true) (hi:H.get i=some (.vec e sz ((l++more).map enc))) (hm:m=l.length+more.length) (hn:n=l.length):VTo D H (.rs i m sz n) (.sl false sz (l.map enc) dd):=
 .rsc dd i sz m n e _ _ hD hi (by simp;omega) (by omega) (by simp;omega) (fun ds hds=>by obtain ⟨x,_,rfl⟩:=List.mem_map.1 hds;exact he.len x) (jb7 l) fun k j c d hk h1 h2=>by
  have hk':k < l.length:=by omega
  have e1:((l++more).map enc).getD k []=enc l[k]:=by rw [List.map_append,List.getD_eq_getElem?_getD,List.getElem?_append_left (by simpa using hk')];simp [hk']
  have e2:(l.map enc).getD k []=enc l[k]:=by simp [hk']
  rw [e1] at h1
  rw [e2,h1] at h2;cases h2
  exact .same c (jds (fun _ h=>by cases h) _ (jbL (he.free _) h1))
theorem RS.get0 {t:TypeId} {pre post:List AV} {R:RS} {tl:List (Nat×Row)}:jas (R.e t pre post tl) 0=some (.var t (pre++R.c++post)):=rfl
theorem RS.get1 {t:TypeId} {pre post:List AV} {R:RS} {tl:List (Nat×Row)}:jas (R.e t pre post tl) 1=some (.vec 57 3 (tab R.frs.length R.fr)):=rfl
theorem RS.get2 {t:TypeId} {pre post:List AV} {R:RS} {tl:List (Nat×Row)}:jas (R.e t pre post tl) 2=some (.vec 22 1 (tab R.heap.length fun k=>[.rs (fid 2 k) (nth R.heap k).length 1 (nth R.heap k).length])):=rfl
theorem RS.get3 {t:TypeId} {pre post:List AV} {R:RS} {tl:List (Nat×Row)}:jas (R.e t pre post tl) 3=some (.vec 9 1 (R.out_.map eS)):=rfl
theorem RS.getF {t:TypeId} {pre post:List AV} {R:RS} {tl:List (Nat×Row)} (i:Nat) (h:1000≤i):jas (R.e t pre post tl) i=jas (fam 0 R.frs.length R.sl (fam 1 R.frs.length R.pt (fam 2 R.heap.length R.hp tl))) i:=by
 unfold RS.e
 simp only [jas]
 rw [if_neg (by omega),if_neg (by omega),if_neg (by omega),if_neg (by omega)]
theorem RS.getS {t:TypeId} {pre post:List AV} {R:RS} {tl:List (Nat×Row)} {k:Nat} (h:k < R.frs.length):jas (R.e t pre post tl) (fid 0 k)=some (R.sl k):=by rw [RS.getF _ (jbU _ _),jcl _ _ _ _ _ (by omega) h]
theorem RS.getP {t:TypeId} {pre post:List AV} {R:RS} {tl:List (Nat×Row)} {k:Nat} (h:k < R.frs.length):jas (R.e t pre post tl) (fid 1 k)=some (R.pt k):=by rw [RS.getF _ (jbU _ _),jbq _ _ _ _ _ _ (by omega) (by omega) (by omega),jcl _ _ _ _ _ (by omega) h]
theorem RS.getH {t:TypeId} {pre post:List AV} {R:RS} {tl:List (Nat×Row)} {k:Nat} (h:k < R.heap.length):jas (R.e t pre post tl) (fid 2 k)=some (R.hp k):=by rw [RS.getF _ (jbU _ _),jbq _ _ _ _ _ _ (by omega) (by omega) (by omega),jbq _ _ _ _ _ _ (by omega) (by omega) (by omega),jcl _ _ _ _ _ (by omega) h]
theorem jgb (n:Nat) (f:Nat→List AV) (k:Nat) (h:k < n):(tab n f).getD k []=f k:=jvH n f k [] h
theorem RS.vto {D:Nat→Bool} {t:TypeId} {pre post:List AV} {R:RS} {B:List Nat} {tl:List (Nat×Row)} (h:R.Ok) (hD:∀ i,D i=true):VToL D ⟨B,R.e t pre post tl⟩ R.c (jai R.st):=by
 have hnf:=h.nf
 refine ⟨?_,?_,.same _ rfl,?_,.same _ rfl,.same _ rfl,.same _ rfl,True.intro⟩
 ·refine .rsc _ 1 3 _ _ 57 _ _ (hD _) RS.get1 (by simp [go_sem]) hnf (by show (List.map _ (R.frs.take R.nf)).length=_;simp;omega) (fun ds hds=>?_) (jb7 (enc:=jaJ) (sz:=3) _) fun k j c d hk h1 h2=>?_
  ·obtain ⟨x,_,rfl⟩:=List.mem_map.1 hds;rfl
  ·rw [jgb _ _ _ (by omega)] at h1
   have hk':k < (R.frs.take R.nf).length:=by simp;omega
   have e2:(List.map jaJ (R.frs.take R.nf)).getD k []=jaJ (nth R.frs k):=by
    rw [jdO _ _ _ hk',jbl hk',jbl (by omega)];simp
   have h2:((List.map jaJ (R.frs.take R.nf)).getD k [])[j]?=some d:=h2
   rw [e2] at h2
   unfold RS.fr at h1
   match j with
   | 0=>cases h1;cases h2;exact .same _ rfl
   | 1=>cases h1;cases h2;exact .row _ (hD _) (RS.getS (by omega)) rfl
   | 2=>cases h1;cases h2;exact .rowCut _ _ (hD _) (RS.getP (by omega)) rfl rfl
   | j+3=>simp at h1
 ·refine .rs _ 2 1 _ 22 _ _ (hD _) RS.get2 (by simp [go_sem]) (by simp [go_sem];rfl) (fun ds hds=>?_) (jb7 (enc:=eLI) (sz:=1) _) fun k j c d hk h1 h2=>?_
  ·obtain ⟨x,_,rfl⟩:=List.mem_map.1 hds;rfl
  ·have hk:k < R.heap.length:=by simpa [go_sem] using hk
   rw [jgb _ _ _ hk] at h1
   have h2:((List.map eLI R.heap).getD k [])[j]?=some d:=h2
   rw [jdO _ _ _ hk] at h2
   match j with
   | 0=>cases h1;cases h2;exact .row _ (hD _) (RS.getH hk) rfl
   | j+1=>simp at h1
 ·exact .row _ (hD _) RS.get3 rfl
theorem jno (a:Nat) (f:Nat→Row) (l m:List (Nat×Row)):∀ (n k:Nat),jel a f k n (l++m)=jel a f k n l++m
 | 0,k=>rfl
 | n+1,k=>by unfold jel;rw [jno a f l m n (k+1)];rfl
theorem jd6 (a n:Nat) (f:Nat→Row) (l m:List (Nat×Row)):fam a n f (l++m)=fam a n f l++m:=jno a f l m n 0
theorem jbB:∀ (l m:List (Nat×Row)) (i:Nat),jas (l++m) i=(jas l i).or (jas m i)
 | [],m,i=>by simp [jas]
 | (j,r)::l,m,i=>by
  show (if i=j then some r else jas (l++m) i)=((if i=j then some r else jas l i):Option Row).or _
  split
  ·rfl
  ·exact jbB l m i
theorem RS.e_app {t:TypeId} {pre post:List AV} {R:RS} (tl:List (Nat×Row)):R.e t pre post tl=R.e t pre post []++tl:=by
 unfold RS.e
 rw [show tl=[]++tl from rfl,jd6,jd6,jd6]
 rfl
theorem RS.no {t:TypeId} {pre post:List AV} {R:RS} (i:Nat) (h:4≤i) (h':i < 1000):jas (R.e t pre post []) i=none:=by
 unfold RS.e
 simp only [jas]
 rw [if_neg (by omega),if_neg (by omega),if_neg (by omega),if_neg (by omega),jbG _ _ _ _ _ h',jbG _ _ _ _ _ h',jbG _ _ _ _ _ h']
 rfl
def low (tl:List (Nat×Row)):Prop:=∀ i r,jas tl i=some r→4≤i∧i < 1000
theorem RS.lays {t:TypeId} {pre post:List AV} {R:RS} {tl:List (Nat×Row)} (h:low tl):Lays (fun tl=>R.e t pre post tl) tl:=⟨fun i=>by rw [RS.e_app,jbB],fun i r hi=>RS.no i (h i r hi).1 (h i r hi).2⟩
theorem RS.size {t:TypeId} {pre post pre' post':List AV} {R R':RS} (h1:R.frs.length≤R'.frs.length) (h2:R.heap.length≤R'.heap.length) (i:Nat) (h:jas (R.e t pre post []) i≠none):jas (R'.e t pre' post' []) i≠none:=by
 by_cases h0:i=0
 ·subst h0;rw [RS.get0];simp
 by_cases h1':i=1
 ·subst h1';rw [RS.get1];simp
 by_cases h2':i=2
 ·subst h2';rw [RS.get2];simp
 by_cases h3':i=3
 ·subst h3';rw [RS.get3];simp
 by_cases h4:i < 1000
 ·exact (h (RS.no i (by omega) h4)).elim
 rw [RS.getF i (by omega)] at h ⊢
 rcases jeP 0 R.frs.length (by omega) R.sl (fam 1 R.frs.length R.pt (fam 2 R.heap.length R.hp [])) i with ⟨k,hk,rfl,e⟩ | ⟨_,e⟩
 ·rw [jcl _ _ _ _ _ (by omega) (by omega)];simp
 rw [e] at h
 rcases jeP 1 R.frs.length (by omega) R.pt (fam 2 R.heap.length R.hp []) i with ⟨k,hk,rfl,e⟩ | ⟨_,e⟩
 ·rw [jbq _ _ _ _ _ _ (by omega) (by omega) (by omega),jcl _ _ _ _ _ (by omega) (by omega)];simp
 rw [e] at h
 rcases jeP 2 R.heap.length (by omega) R.hp [] i with ⟨k,hk,rfl,e⟩ | ⟨_,e⟩
 ·rw [jbq _ _ _ _ _ _ (by omega) (by omega) (by omega),jbq _ _ _ _ _ _ (by omega) (by omega) (by omega),jcl _ _ _ _ _ (by omega) (by omega)];simp
 rw [e] at h
 exact (h rfl).elim
theorem jbY:∀ (l:List (Nat×Row)) (i:Nat),i∈ids l↔jas l i≠none
 | [],i=>by simp [ids,jas]
 | (j,r)::l,i=>by
  have:=jbY l i
  simp only [ids,List.map_cons,List.mem_cons,jas] at this ⊢
  by_cases e:i=j
  ·simp [e]
  ·rw [if_neg e];simp only [e,false_or];exact this
theorem jdu {l:List (Nat×Row)} {i:Nat} {r:Row} (h:jas l i=some r):(ids l).contains i=true:=List.contains_iff_mem.2 ((jbY l i).2 (by rw [h];simp))
theorem jnw (a:Nat) (f:Nat→Row) (l:List (Nat×Row)):∀ (n k:Nat),ids (jel a f k n l)=(List.range' k n).map (fid a)++ids l
 | 0,k=>rfl
 | n+1,k=>by
  unfold jel
  rw [List.range'_succ]
  show fid a k::ids (jel a f (k+1) n l)=_
  rw [jnw a f l n (k+1)]
  rfl
theorem jie {a n:Nat} {f:Nat→Row} {l:List (Nat×Row)} (ha:a < 8) (h:(ids l).Nodup) (hl:∀ k,k < n→jas l (fid a k)=Option.none):(ids (fam a n f l)).Nodup:=by
 unfold fam
 rw [jnw,List.nodup_append]
 refine ⟨?_,h,fun x hx y hy e=>?_⟩
 ·refine List.Pairwise.map _ (fun x y hxy e=>?_) (List.nodup_range' (step:=1) (s:=0) (n:=n) (by omega))
  exact hxy (jcX ha ha e).2
 ·obtain ⟨k,hk,rfl⟩:=List.mem_map.1 hx
  subst e
  exact (jbY _ _).1 hy (hl k (by simp at hk;omega))
theorem nodup_cons {l:List (Nat×Row)} {i:Nat} {r:Row} (h:(ids l).Nodup) (hl:jas l i=Option.none):(ids ((i,r)::l)).Nodup:=List.nodup_cons.2 ⟨fun hm=>(jbY _ _).1 hm hl,h⟩
theorem RS.nodup {t:TypeId} {pre post:List AV} {R:RS}:(ids (R.e t pre post [])).Nodup:=by
 have f2:∀ i,i < 1000→jas (fam 0 R.frs.length R.sl (fam 1 R.frs.length R.pt (fam 2 R.heap.length R.hp []))) i=Option.none:=fun i h=>by
  rw [jbG _ _ _ _ _ h,jbG _ _ _ _ _ h,jbG _ _ _ _ _ h];rfl
 unfold RS.e
 refine nodup_cons (nodup_cons (nodup_cons (nodup_cons (jie (by omega) (jie (by omega) (jie (by omega) List.nodup_nil (fun k _=>rfl)) fun k _=>?_) fun k _=>?_) ?_) ?_) ?_) ?_
 ·rw [jbq _ _ _ _ _ _ (by omega) (by omega) (by omega)];rfl
 ·rw [jbq _ _ _ _ _ _ (by omega) (by omega) (by omega),jbq _ _ _ _ _ _ (by omega) (by omega) (by omega)];rfl
 ·exact f2 3 (by omega)
 ·show (if (2:Nat)=3 then _ else _)=_
  rw [if_neg (by omega)];exact f2 2 (by omega)
 ·show (if (1:Nat)=2 then _ else if (1:Nat)=3 then _ else _)=_
  rw [if_neg (by omega),if_neg (by omega)];exact f2 1 (by omega)
 ·show (if (0:Nat)=1 then _ else if (0:Nat)=2 then _ else if (0:Nat)=3 then _ else _)=_
  rw [if_neg (by omega),if_neg (by omega),if_neg (by omega)];exact f2 0 (by omega)
theorem jfz (q:Nat→Bool):∀ (l m:List AV),jaB q (l++m)=(jaB q l && jaB q m)
 | [],m=>by simp [jaB]
 | a::l,m=>by simp only [List.cons_append,jaB,jfz q l m,Bool.and_assoc]
theorem jdI {q:Nat→Bool} {l:List (List AV)} (h:QL q l):jaB q l.flatten=true:=by
 induction l with
 | nil=>rfl
 | cons x l ih=>rw [List.flatten_cons,jfz,h x (by simp),ih fun y hy=>h y (by simp [hy])];rfl
theorem RS.closed {t:TypeId} {pre post:List AV} {R:RS} (h1:jaB noQ pre=true) (h2:jaB noQ post=true):∀ i r,jas (R.e t pre post []) i=some r→jaB (fun i=>(ids (R.e t pre post [])).contains i) r.cells=true:=fun i r h=>by
 have up:∀ {l},jaB noQ l=true→jaB (fun i=>(ids (R.e t pre post [])).contains i) l=true:=fun h=>jbg (fun _ h=>by cases h) _ h
 have c1:=jdu (RS.get1 (t:=t) (pre:=pre) (post:=post) (R:=R) (tl:=[]))
 have c2:=jdu (RS.get2 (t:=t) (pre:=pre) (post:=post) (R:=R) (tl:=[]))
 have c3:=jdu (RS.get3 (t:=t) (pre:=pre) (post:=post) (R:=R) (tl:=[]))
 by_cases h0:i=0
 ·subst h0;rw [RS.get0] at h;cases h
  show jaB _ (pre++R.c++post)=true
  rw [jfz,jfz,up h1,up h2]
  simp only [RS.c,jaB,AV.all,c1,c2,c3,Bool.and_self]
 by_cases h1':i=1
 ·subst h1';rw [RS.get1] at h;cases h
  exact jdI (jha fun k hk=>by
   have a:=jdu (RS.getS (t:=t) (pre:=pre) (post:=post) (R:=R) (tl:=[]) hk)
   have b:=jdu (RS.getP (t:=t) (pre:=pre) (post:=post) (R:=R) (tl:=[]) hk)
   simp only [RS.fr,jaB,AV.all,a,b,Bool.and_self])
 by_cases h2':i=2
 ·subst h2';rw [RS.get2] at h;cases h
  exact jdI (jha fun k hk=>by
   have a:=jdu (RS.getH (t:=t) (pre:=pre) (post:=post) (R:=R) (tl:=[]) hk)
   simp only [jaB,AV.all,a,Bool.and_self])
 by_cases h3':i=3
 ·subst h3';rw [RS.get3] at h;cases h
  exact up (jdI (jb7 (enc:=eS) (sz:=1) _))
 by_cases h4:i < 1000
 ·rw [RS.no i (by omega) h4] at h;cases h
 rw [RS.getF i (by omega)] at h
 rcases jeP 0 R.frs.length (by omega) R.sl (fam 1 R.frs.length R.pt (fam 2 R.heap.length R.hp [])) i with ⟨k,hk,rfl,e⟩ | ⟨_,e⟩
 ·rw [e] at h;cases h
  exact up (jdI (jb7 (enc:=jag) (sz:=3) _))
 rw [e] at h
 rcases jeP 1 R.frs.length (by omega) R.pt (fam 2 R.heap.length R.hp []) i with ⟨k,hk,rfl,e⟩ | ⟨_,e⟩
 ·rw [e] at h;cases h
  exact up (jdI (jb7 (enc:=jay) (sz:=2) _))
 rw [e] at h
 rcases jeP 2 R.heap.length (by omega) R.hp [] i with ⟨k,hk,rfl,e⟩ | ⟨_,e⟩
 ·rw [e] at h;cases h
  exact up (jdI (jb7 (enc:=eI) (sz:=1) _))
 rw [e] at h
 cases h
theorem cE {P:Program} {f:FuncId} {args:List AV} {H:Hp} {K:AV→Hp→Prop} {t:TypeId} {pre post pre' post':List AV} {R R':RS} {r0:AV} {B:List Nat} {tl:List (Nat×Row)} (hc:ACalls P f args (R.e t pre post []) fun r l'=>r=r0∧l'=R'.e t pre' post' []) (hH:H=⟨B,R.e t pre post tl⟩)
  (h1:R.frs.length≤R'.frs.length) (h2:R.heap.length≤R'.heap.length) (hp:jaB noQ pre=true) (hq:jaB noQ post=true) (hl:low tl) (ha:jaB (fun i=>decide (i=0)) args=true) (h0:jab P f=true) (k:K r0 ⟨B,R'.e t pre' post' tl⟩):jbm P (.raw (.func (.func f) #[] #[])) args H K:=by
 subst hH
 refine jbQ h0 (jeL (E:=fun tl=>R.e t pre post tl) (E':=fun tl=>R'.e t pre' post' tl) hc (RS.lays hl) (RS.lays hl) RS.nodup (jbg (fun i hi=>?_) _ ha) (RS.closed hp hq) k (RS.size h1 h2))
 have:i=0:=of_decide_eq_true hi
 subst this
 exact jdu RS.get0
theorem jdQ (D:Nat→Bool):∀ (l m:List (Nat×Row)),ja9 D (l++m)=ja9 D l++ja9 D m
 | [],m=>rfl
 | (j,r)::l,m=>by
  show (bif D j then ja9 D (l++m) else (j,r)::ja9 D (l++m))=(bif D j then ja9 D l else (j,r)::ja9 D l)++_
  rw [jdQ D l m]
  cases D j<;>rfl
theorem jcG (D:Nat→Bool):∀ (l:List (Nat×Row)),(∀ i∈ids l,D i=false)→ja9 D l=l
 | [],_=>rfl
 | (j,r)::l,h=>by
  show (bif D j then ja9 D l else (j,r)::ja9 D l)=_
  rw [h j (by simp [ids]),jcG D l fun i hi=>h i (by simp [ids] at hi ⊢;exact .inr hi)]
  rfl
theorem jfP (D:Nat→Bool):∀ (l:List (Nat×Row)),(∀ i∈ids l,D i=true)→ja9 D l=[]
 | [],_=>rfl
 | (j,r)::l,h=>by
  show (bif D j then ja9 D l else (j,r)::ja9 D l)=_
  rw [h j (by simp [ids]),jfP D l fun i hi=>h i (by simp [ids] at hi ⊢;exact .inr hi)]
  rfl
theorem jeW (D:Nat→Bool):∀ (l m:List (Nat×Row)),jek D l→jek D m→jek D (l++m)
 | [],m,_,h=>h
 | (j,r)::l,m,h,k=>⟨h.1,jeW D l m h.2 k⟩
theorem jhI (D:Nat→Bool):∀ (l:List (Nat×Row)),(∀ i∈ids l,D i=true)→jek D l
 | [],_=>trivial
 | (j,r)::l,h=>⟨.inl (h j (by simp [ids])),jhI D l fun i hi=>h i (by simp [ids] at hi ⊢;exact .inr hi)⟩
theorem jqK {q:Nat→Bool}:∀ {l:List (List AV)},jaB q l.flatten=true→QL q l
 | [],_,x,hx=>by simp at hx
 | a::l,h,x,hx=>by
  rw [List.flatten_cons,jff,Bool.and_eq_true] at h
  rcases List.mem_cons.1 hx with rfl | hx
  ·exact h.1
  ·exact jqK h.2 x hx
theorem jmP {q:Nat→Bool}:∀ {r:Row},jaB q r.cells=true→jrC q r
 | .var _ _,h=>h
 | .vec _ _ _,h=>jqK h
 | .mp _ _,h=>h
theorem jd0 (D:Nat→Bool):∀ (l:List (Nat×Row)),(ids l).Nodup→(∀ i r,jas l i=some r→jaB (jcB D) r.cells=true)→jek D l
 | [],_,_=>trivial
 | (j,r)::l,hn,h=>by
  have hn':=List.nodup_cons.1 hn
  refine ⟨.inr (jmP (h j r (by simp [jas]))),jd0 D l hn'.2 fun i r' hi=>h i r' ?_⟩
  have:i≠j:=fun e=>by
   subst e
   exact hn'.1 ((jbY l i).2 (by rw [hi];simp))
  simp only [jas,if_neg this]
  exact hi
def lowQ:Nat→Bool:=fun i=>decide (4≤i∧i < 1000)
theorem RS.lowQ {t:TypeId} {pre post:List AV} {R:RS} {i:Nat} (h:i∈ids (R.e t pre post [])):lowQ i=false:=by
 unfold Go.Gd.lowQ
 refine decide_eq_false fun h'=>?_
 exact (jbY _ _).1 h (RS.no i h'.1 h'.2)
theorem RS.free {t t':TypeId} {pre post pre' post':List AV} {R R':RS} {tl:List (Nat×Row)} {B:List Nat} (hB:ids (R.e t pre post [])=B) (hl:low tl) (hp:jaB noQ pre'=true) (hq:jaB noQ post'=true) :
  B.all (jcB Go.Gd.lowQ)=true∧jek Go.Gd.lowQ (R'.e t' pre' post' tl)∧ja9 Go.Gd.lowQ (R'.e t' pre' post' tl)=R'.e t' pre' post' []:=by
 have htl:∀ i∈ids tl,Go.Gd.lowQ i=true:=fun i hi=>by
  obtain ⟨r,hr⟩:=Option.ne_none_iff_exists'.1 ((jbY _ _).1 hi)
  exact decide_eq_true (hl i r hr)
 refine ⟨?_,?_,?_⟩
 ·rw [List.all_eq_true]
  intro i hi
  rw [← hB] at hi
  unfold jcB
  rw [RS.lowQ hi];rfl
 ·rw [RS.e_app]
  refine jeW _ _ _ (jd0 _ _ RS.nodup fun i r hi=>jbg (fun j hj=>?_) _ (RS.closed hp hq i r hi)) (jhI _ _ htl)
  unfold jcB
  rw [RS.lowQ (List.contains_iff_mem.1 hj)];rfl
 ·rw [RS.e_app,jdQ,jcG _ _ (fun i hi=>RS.lowQ hi),jfP _ _ htl,List.append_nil]
theorem jb8 {P:Program} {fn:Func} {F:List AV} {H:Hp} {out:List AV} {e:Exit} {r0:AV} {t t':TypeId} {pre post pre' post':List AV} {R R':RS} {tl:List (Nat×Row)} {B:List Nat} (hH:H=⟨B,R'.e t' pre' post' tl⟩) (hB:ids (R.e t pre post [])=B) (rs:List ResultVar) (hl:low tl) (hp:jaB noQ pre'=true) (hq:jaB noQ post'=true) (hr:r0.all noQ=true)
  (hrs:fn.results.toList=rs:=by rfl) (he:e=.normal∨e=.ret:=by first | exact Or.inr rfl | exact Or.inl rfl | fail) (ho:jgg P H F rs=some out:=by first | rfl | (simp (disch:=first | omega | fail) only [go_sem,↓reduceIte,Nat.reduceEqDiff,Nat.reduceLeDiff,Nat.reduceSub,Nat.reduceAdd];rfl)) (hok:jbT P H F rs:=by first | exact True.intro | (simp (disch:=first | omega | fail) only [go_sem,↓reduceIte,Nat.reduceEqDiff,Nat.reduceLeDiff,Nat.reduceSub,Nat.reduceAdd])) (hv:jbo out=r0:=by first | rfl | (simp only [go_sem];done)):jhu P fn (fun r l=>r=r0∧l=R'.e t' pre' post' []) e F H:=by
 subst hrs hH
 obtain ⟨h1,h2,h3⟩:=RS.free (R':=R') (t':=t') (pre':=pre') (post':=post') hB hl hp hq
 exact jfZ Go.Gd.lowQ he ho hok h1 h2 (jiP hv (jds (fun _ h=>by cases h) _ (hv ▸ hr))) h3
def RS.upd (R:RS) (k:Nat) (f:GFrame):RS:={ R with frs:=R.frs.set k f }
theorem RS.nth_upd {R:RS} {k:Nat} (h:k < R.frs.length) (f:GFrame) (j:Nat):nth (R.upd k f).frs j=if j=k then f else nth R.frs j:=Go.Gd.nth_upd _ _ _ _ h
theorem RS.upd_c {R:RS} {k:Nat} {f:GFrame}:(R.upd k f).c=R.c:=by simp [RS.c,RS.upd]
theorem RS.upd_len {R:RS} {k:Nat} {f:GFrame}:R.frs.length=(R.upd k f).frs.length:=by simp [RS.upd]
theorem RS.e_slots {t:TypeId} {pre post:List AV} {R:RS} {tl:List (Nat×Row)} {k:Nat} (hk:k < R.frs.length) {c0:List AV} {s:Nat→Row} {l:List GValue} (hl:l.length=(nth R.frs k).slots.length) (hc:c0=pre++R.c++post) (h1:∀ j,s j=if j=k then .vec 59 3 (l.map jag) else R.sl j) :
  (0,.var t c0)::(1,.vec 57 3 (tab R.frs.length R.fr))::(2,.vec 22 1 (tab R.heap.length fun k=>[.rs (fid 2 k) (nth R.heap k).length 1 (nth R.heap k).length]))::(3,.vec 9 1 (R.out_.map eS)) ::
   fam 0 R.frs.length s (fam 1 R.frs.length R.pt (fam 2 R.heap.length R.hp tl))=(R.upd k { nth R.frs k with slots:=l }).e t pre post tl:=by
 have hu:=RS.nth_upd hk { nth R.frs k with slots:=l }
 refine RS.e_mk (by rw [hc,RS.upd_c]) RS.upd_len (fun j hj=>?_) rfl (fun _ _=>rfl) rfl rfl rfl rfl (fun j hj=>?_) (fun j hj=>?_) (fun _ _=>rfl) rfl
 ·simp only [RS.fr,hu]
  split
  ·rename_i e;subst e;simp [hl,RS.upd]
  ·rfl
 ·rw [h1]
  simp only [RS.sl,hu]
  split<;>rfl
 ·simp only [RS.pt,hu]
  split
  ·rename_i e;subst e;rfl
  ·rfl
theorem RS.e_path {t:TypeId} {pre post:List AV} {R:RS} {tl:List (Nat×Row)} {k:Nat} (hk:k < R.frs.length) {c0:List AV} {s:Nat→Row} {l:List GPlace} (hl:l.length=(nth R.frs k).path.length) (hc:c0=pre++R.c++post) (h1:∀ j,s j=if j=k then .vec 89 2 ((l++nth R.jp k).map jay) else R.pt j) :
  (0,.var t c0)::(1,.vec 57 3 (tab R.frs.length R.fr))::(2,.vec 22 1 (tab R.heap.length fun k=>[.rs (fid 2 k) (nth R.heap k).length 1 (nth R.heap k).length]))::(3,.vec 9 1 (R.out_.map eS)) ::
   fam 0 R.frs.length R.sl (fam 1 R.frs.length s (fam 2 R.heap.length R.hp tl))=(R.upd k { nth R.frs k with path:=l }).e t pre post tl:=by
 have hu:=RS.nth_upd hk { nth R.frs k with path:=l }
 refine RS.e_mk (by rw [hc,RS.upd_c]) RS.upd_len (fun j hj=>?_) rfl (fun _ _=>rfl) rfl rfl rfl rfl (fun j hj=>?_) (fun j hj=>?_) (fun _ _=>rfl) rfl
 ·simp only [RS.fr,hu]
  split
  ·rename_i e;subst e;simp [hl,RS.upd]
  ·rfl
 ·simp only [RS.sl,hu]
  split
  ·rename_i e;subst e;rfl
  ·rfl
 ·rw [h1]
  simp only [RS.pt,hu]
  split
  ·rename_i e;subst e;rfl
  ·rfl
def jb3 (p:GProg) (b:Int):List Int:=(nth p.tree.nodes b.toNat).l
def GState.top (s:GState):GFrame:=nth s.frames (s.frames.length - 1)
def GFrame.pl (f:GFrame):GPlace:=nth f.path (f.path.length - 1)
def atV (p:GProg) (s:GState):Int:=nth (jb3 p s.top.pl.block) s.top.pl.at_.toNat
def onF (f:GFrame):GFrame:={ f with path:=f.path.set (f.path.length - 1) ⟨(nth f.path (f.path.length - 1)).block,(nth f.path (f.path.length - 1)).at_+1⟩ }
def RS.on (R:RS):RS:=R.upd (R.nf - 1) (onF (nth R.frs (R.nf - 1)))
structure OnOk (R:RS):Prop where
 ok:R.Ok
 nf:1≤R.nf
 frs:R.frs.length≤1000
 pa:1≤(nth R.frs (R.nf - 1)).path.length
 pas:(nth R.frs (R.nf - 1)).path.length≤1000
 a0:0≤(nth R.frs (R.nf - 1)).pl.at_
 a1:(nth R.frs (R.nf - 1)).pl.at_≤1000000
theorem OnOk.upd {R:RS} (h:OnOk R) {f:GFrame} (e:f.path=(nth R.frs (R.nf - 1)).path):OnOk (R.upd (R.nf - 1) f):=by
 have hu:nth (R.upd (R.nf - 1) f).frs ((R.upd (R.nf - 1) f).nf - 1)=f:=by
  have h1:=h.nf
  have h2:=h.ok.nf
  show nth (R.upd (R.nf - 1) f).frs (R.nf - 1)=f
  rw [RS.nth_upd (by omega),if_pos rfl]
 have hl:(R.upd (R.nf - 1) f).frs.length=R.frs.length:=RS.upd_len.symm
 refine ⟨⟨by rw [hl];exact h.ok.nf,by rw [hl];exact h.ok.jp⟩,h.nf,by rw [hl];exact h.frs,by rw [hu,e];exact h.pa,by rw [hu,e];exact h.pas,?_,?_⟩
 ·rw [hu];unfold GFrame.pl;rw [e];exact h.a0
 ·rw [hu];unfold GFrame.pl;rw [e];exact h.a1
end Go.Gd
namespace Go.Proofs.YtfkgcobaheegbaaGreatDoor
open Go Go.Gd
set_option maxHeartbeats 1000000 in
set_option maxRecDepth 10000 in
theorem jmG (R:RS) (ho:OnOk R) :
  ACalls Tryz.prog 121 [.pt 0 0 0 0] (R.e 39 [] [] []) (fun v l=>v=.tup []∧l=R.on.e 39 [] [] []):=by
 have hnf:=ho.ok.nf
 have hjp:=ho.ok.jp
 have h1:=ho.nf
 have h2:=ho.pa
 have h3:=ho.a0
 have h4:=ho.a1
 have h5:=ho.frs
 have h6:=ho.pas
 unfold GFrame.pl at h3 h4
 refine jaw Tryz.func121 Tryz.ntmps121 ?_
 generalize hB:ids (R.e 39 [] [] [])=B
 generalize hE:R.on.e 39 [] [] []=E
 (refine S ?_;try exact True.intro)
 (repeat' (first|refine jaa fun K hK=>?_|refine wkA ?_|(with_reducible refine gR 0 ?_);refine dE 0 [0,1,2,3,4,5,6,7,8,9,10,11] mixed ?_|(with_reducible refine gR 1 ?_);refine dE 1 [0,1,2,3,4,5,6,7,8,9,10,11,12,13,14,15,16] mixed ?_|(refine hK _ _ ?_;clear hK K)|(refine jad (fun hc=>?_) (fun hc=>?_)<;>first | contradiction | (exfalso;omega) | skip)|refine wkB ?_|exact True.intro|(clear hK K)))
 (refine jbM [] ?_ ?_<;>(try simp only [go_sem]))
 subst hE
 refine RS.e_path (by omega) (by simp) (by simp [RS.c]) fun j=>?_
 split
 ·rename_i e;subst e
  show Row.vec _ _ _=Row.vec _ _ _
  rw [← List.map_append,← List.map_set]
  congr 2
  exact List.set_append_left _ _ (by omega)
 ·rw [List.map_append.symm];rfl
set_option maxHeartbeats 1000000 in
set_option maxRecDepth 10000 in
theorem jxi (p:GProg) (s:GState) (h1:1≤s.frames.length) (h2:s.frames.length≤1000) (h3:1≤s.top.path.length) (h4:s.top.path.length≤1000) (h5:0≤s.top.pl.block) (h6:s.top.pl.block < p.tree.nodes.length) (h7:0≤s.top.pl.at_) (h8:s.top.pl.at_ < (jb3 p s.top.pl.block).length) :
  PCall Tryz.prog 63 [.agg (jam p),.agg (jai s)] (.raw (.int .i64 (atV p s))):=by
 unfold GState.top at h3 h4 h5 h6 h7 h8
 unfold GFrame.pl at h5 h6 h7 h8
 unfold jb3 at h8
 refine jbA Tryz.func63 Tryz.ntmps63 ?_
 (repeat' (first|refine jaa fun K hK=>?_|refine wkA ?_|(with_reducible refine gR 3 ?_);refine dE 3 [0,1,2,3,4,5,6,7,8,9,10,11,12] mixed ?_|(refine hK _ _ ?_;clear hK K)|(refine jad (fun hc=>?_) (fun hc=>?_)<;>first | contradiction | (exfalso;omega) | skip)|refine wkB ?_|exact True.intro|(clear hK K)))
 (refine jaN [.tmp 4] ?_;try simp only [go_sem])
 rfl
end Go.Proofs.YtfkgcobaheegbaaGreatDoor
namespace Go.Gd
open Go
theorem cqL {P:Program} {f:FuncId} {args args':List AV} {H:Hp} {R:AV→Prop} {r0:AV} (hc:PCall P f args' r0) (hv:VToL (fun _=>true) H args args') (hr:r0.flat=true) (h0:jab P f=true) (k:R r0) :
  ∃ r,(jbm P (.raw (.func (.func f) #[] #[])) args H fun r' H'=>r'=r∧H'=H)∧R r:=⟨r0,jbQ h0 (jjl hc hv hr ⟨rfl,rfl⟩),k⟩
theorem cL {P:Program} {f:FuncId} {args args':List AV} {H:Hp} {K:AV→Hp→Prop} {r0:AV} (hc:PCall P f args' r0) (hv:VToL (fun _=>true) H args args') (hr:r0.flat=true) (h0:jab P f=true) (k:K r0 H) :
  jbm P (.raw (.func (.func f) #[] #[])) args H K:=jbQ h0 (jjl hc hv hr k)
def jfn (p:GProg) (node:Int):Prop:=(nth p.tree.nodes node.toNat).kind=10∨(nth p.tree.nodes node.toNat).kind=11
instance (p:GProg) (node:Int):Decidable (jfn p node):=by unfold jfn;infer_instance
structure StAt (p:GProg) (s:GState):Prop where
 fr:1≤s.frames.length
 frs:s.frames.length≤1000
 pa:1≤s.top.path.length
 pas:s.top.path.length≤1000
 b0:0≤s.top.pl.block
 b1:s.top.pl.block < p.tree.nodes.length
 a0:0≤s.top.pl.at_
 a1:s.top.pl.at_ < (jb3 p s.top.pl.block).length
 ats:s.top.pl.at_≤1000000
 n0:0≤atV p s
 n1:atV p s < p.tree.nodes.length
 sl:p.slots.length=p.tree.nodes.length
 s0:jfn p (atV p s)→0≤nth p.slots (atV p s).toNat∧nth p.slots (atV p s).toNat < s.top.slots.length
def RS.pop (R:RS):RS:={ R with nf:=R.nf - 1 }
def RS.setS (R:RS) (p:GProg) (node:Int) (v:GValue):RS:=R.upd (R.nf - 1) { nth R.frs (R.nf - 1) with slots:=(nth R.frs (R.nf - 1)).slots.set (nth p.slots node.toNat).toNat v }
def RS.tells (R:RS) (p:GProg) (v:GValue):RS:=
 if R.nf≤1 then { R.pop with status:=2 }
 else if jfn p (atV p R.pop.st) then (R.pop.setS p (atV p R.pop.st) v).on else R.pop.on
theorem RS.top {R:RS} (h:R.Ok) (h1:1≤R.nf):R.st.top=nth R.frs (R.nf - 1):=by
 have:=h.nf
 unfold RS.st GState.top
 simp only
 have hl:(R.frs.take R.nf).length=R.nf:=by simp;omega
 rw [hl,jbl (by omega),jbl (by omega)]
 simp
end Go.Gd
namespace Go.Proofs.YtfkgcobaheegbaaGreatDoor
open Go Go.Gd
theorem jgy {i j:Nat} {r s:Row} (hi:4≤i∧i < 1000) (hj:4≤j∧j < 1000):low [(i,r),(j,s)]:=fun k x hk=>by
 have hk:k∈ids [(i,r),(j,s)]:=(jbY _ _).2 (by rw [hk];simp)
 simp [ids] at hk
 omega
theorem jli {i j k:Nat} {r s u:Row} (hi:4≤i∧i < 1000) (hj:4≤j∧j < 1000) (hk:4≤k∧k < 1000):low [(i,r),(j,s),(k,u)]:=fun q x hq=>by
 have hq:q∈ids [(i,r),(j,s),(k,u)]:=(jbY _ _).2 (by rw [hq];simp)
 simp [ids] at hq
 omega
set_option maxHeartbeats 1000000 in
set_option maxRecDepth 10000 in
theorem jok (p:GProg) (v:GValue) (R:RS) (h:R.Ok) (h1:1≤R.nf) (h4:R.frs.length≤1000) (ha:2≤R.nf→StAt p R.pop.st) :
  ACalls Tryz.prog 103 [.agg (jam p),.pt 0 0 0 0,.agg (jag v)] (R.e 39 [] [] []) (fun r l=>r=.tup []∧l=(R.tells p v).e 39 [] [] []):=by
 have hnf:=h.nf
 have hjp:=h.jp
 have hpop:R.pop.Ok:=⟨by show R.nf - 1≤R.frs.length;omega,hjp⟩
 rcases Nat.lt_or_ge R.nf 2 with h2 | h2
 ·have e:R.tells p v={ R.pop with status:=2 }:=by unfold RS.tells;rw [if_pos (by omega)]
  rw [e]
  have h0:R.nf - 1=0:=by omega
  refine jaw Tryz.func103 Tryz.ntmps103 ?_
  generalize hB:ids (R.e 39 [] [] [])=B
  generalize hE:({ R.pop with status:=2 }:RS).e 39 [] [] []=E
  (refine S ?_;try exact True.intro)
  (repeat' (first|refine jaa fun K hK=>?_|refine wkA ?_|(with_reducible refine gR 1 ?_);refine dE 1 [0,1,2,3,4,5,6,7,8,9,10,11,12,13,14] mixed ?_|(refine hK _ _ ?_;clear hK K)|(refine jad (fun hc=>?_) (fun hc=>?_)<;>first | contradiction | (exfalso;omega) | skip)|refine bxF 4 ?_|refine bxF 5 ?_|refine wkB ?_|exact True.intro|(clear hK K)))
  subst hE
  exact jb8 (R':={ R.pop with status:=2 }) (tl:=[(4,.var 29 (jam p)),(5,.var 59 (jag v))]) rfl hB [] (jgy (by omega) (by omega)) rfl rfl rfl
 ·have hA:=ha h2
  have hn0:=hA.n0
  have hn1:=hA.n1
  have hsl:=hA.sl
  have htop:=RS.top hpop (by show 1≤R.nf - 1;omega)
  have hAc:=jxi p R.pop.st hA.fr hA.frs hA.pa hA.pas hA.b0 hA.b1 hA.a0 hA.a1
  have hs0:=hA.s0
  rw [htop] at hs0
  have hon:OnOk R.pop:=⟨hpop,by show 1≤R.nf - 1;omega,h4,by rw [← htop];exact hA.pa,by rw [← htop];exact hA.pas,by rw [← htop];exact hA.a0,by rw [← htop];exact hA.ats⟩
  have hlow:∀ (x y z:Row),low [(4,x),(5,y),(6,z)]:=fun x y z=>jli (by omega) (by omega) (by omega)
  have hk:R.nf - 1 - 1 < R.frs.length:=by omega
  generalize hnode:atV p R.pop.st=node at *
  by_cases hls:jfn p node
  ·have e:R.tells p v=(R.pop.setS p node v).on:=by unfold RS.tells;rw [if_neg (by omega),hnode,if_pos hls]
   rw [e]
   have hs1:=hs0 hls
   unfold jfn at hls
   have hs2:nth p.slots node.toNat < ((nth R.frs (R.nf - 1 - 1)).slots.length:Int):=hs1.2
   have hs3:=hs1.1
   have hon:=jmG (R.pop.setS p node v) (hon.upd rfl)
   have hj:∀ j,(if j=R.nf - 1 - 1 then Row.vec 59 3 ((List.map jag (nth R.frs (R.nf - 1 - 1)).slots).set (nth p.slots node.toNat).toNat (jag v++List.drop 3 (jag (nth (nth R.frs (R.nf - 1 - 1)).slots (nth p.slots node.toNat).toNat)))) else Row.vec 59 3 (List.map jag (nth R.frs j).slots))=if j=R.nf - 1 - 1 then .vec 59 3 (((nth R.frs (R.nf - 1 - 1)).slots.set (nth p.slots node.toNat).toNat v).map jag) else R.pop.sl j:=fun j=>by
    by_cases e:j=R.nf - 1 - 1
    ·rw [if_pos e,if_pos e,List.map_set];rfl
    ·rw [if_neg e,if_neg e];rfl
   refine jaw Tryz.func103 Tryz.ntmps103 ?_
   generalize hB:ids (R.e 39 [] [] [])=B
   generalize hE:(R.pop.setS p node v).on.e 39 [] [] []=E
   (refine S ?_;try exact True.intro)
   (have W:=hls;repeat' (first|refine jaa fun K hK=>?_|refine wkA ?_|(with_reducible refine gR 1 ?_);refine dE 1 [0,1,2,3,4,5,6,7,8,9,10,11,12,13,14] mixed ?_|(with_reducible refine gR 4 ?_);refine dE 4 [0,1,2,3,4,5] mixed ?_|(with_reducible refine gR 7 ?_);refine dE 7 [0,1,2,3,4,5,6,7,8,9,10,11,12,13,14,15,16,17,18,19,20] mixed ?_|(refine hK _ _ ?_;clear hK K)|(refine jad (fun hc=>?_) (fun hc=>?_)<;>first | contradiction | (exfalso;omega) | skip)|refine bxF 4 ?_|refine bxF 5 ?_|refine alF 6 ?_|(refine cL (args':=[.agg (jam p),.agg (jai R.pop.st)]) hAc (show VToL _ ⟨B,R.pop.e 39 [] [] _⟩ [.agg (jam p),.agg R.pop.c] _ from ⟨.same _ rfl,(RS.vto hpop fun _=>rfl).agg,trivial⟩) rfl (by simp only [go_sem]) ?_;(refine S ?_;try exact True.intro))|(refine cE (R:=R.pop.setS p node v) (R':=(R.pop.setS p node v).on) (pre:=[]) (post:=[]) (pre':=[]) (post':=[]) hon (congrArg (Hp.mk B) (RS.e_slots (R:=R.pop) (k:=R.nf - 1 - 1) hk (List.length_set ..) rfl hj)) (Nat.le_of_eq RS.upd_len) (Nat.le_refl _) rfl rfl (hlow _ _ _) rfl (by simp only [go_sem]) ?_;(refine S ?_;try exact True.intro))|refine wkB ?_|exact True.intro|(clear hK K)));all_goals (try clear W)
   subst hE
   exact jb8 (R':=(R.pop.setS p node v).on) (tl:=[(4,.var 29 (jam p)),(5,.var 59 (jag v)),(6,.var 53 (jao (nth p.tree.nodes node.toNat)))]) rfl hB [] (hlow _ _ _) rfl rfl rfl
  ·have e:R.tells p v=R.pop.on:=by unfold RS.tells;rw [if_neg (by omega),hnode,if_neg hls]
   rw [e]
   have hon:=jmG R.pop hon
   unfold jfn at hls
   refine jaw Tryz.func103 Tryz.ntmps103 ?_
   generalize hB:ids (R.e 39 [] [] [])=B
   generalize hE:R.pop.on.e 39 [] [] []=E
   (refine S ?_;try exact True.intro)
   (have W:=hls;repeat' (first|refine jaa fun K hK=>?_|refine wkA ?_|(with_reducible refine gR 1 ?_);refine dE 1 [0,1,2,3,4,5,6,7,8,9,10,11,12,13,14] mixed ?_|(with_reducible refine gR 4 ?_);refine dE 4 [0,1,2,3,4,5] mixed ?_|(refine hK _ _ ?_;clear hK K)|(refine jad (fun hc=>?_) (fun hc=>?_)<;>first | contradiction | (exfalso;omega) | skip)|refine bxF 4 ?_|refine bxF 5 ?_|refine alF 6 ?_|(refine cL (args':=[.agg (jam p),.agg (jai R.pop.st)]) hAc (show VToL _ ⟨B,R.pop.e 39 [] [] _⟩ [.agg (jam p),.agg R.pop.c] _ from ⟨.same _ rfl,(RS.vto hpop fun _=>rfl).agg,trivial⟩) rfl (by simp only [go_sem]) ?_;(refine S ?_;try exact True.intro))|(refine cE (R:=R.pop) (R':=R.pop.on) (pre:=[]) (post:=[]) (pre':=[]) (post':=[]) hon rfl (Nat.le_of_eq RS.upd_len) (Nat.le_refl _) rfl rfl (hlow _ _ _) rfl (by simp only [go_sem]) ?_;(refine S ?_;try exact True.intro))|refine wkB ?_|exact True.intro|(clear hK K)));all_goals (try clear W)
   subst hE
   exact jb8 (R':=R.pop.on) (tl:=[(4,.var 29 (jam p)),(5,.var 59 (jag v)),(6,.var 53 (jao (nth p.tree.nodes node.toNat)))]) rfl hB [] (hlow _ _ _) rfl rfl rfl
end Go.Proofs.YtfkgcobaheegbaaGreatDoor
namespace Go.Gd
open Go
def RS.topF (R:RS):GFrame:=nth R.frs (R.nf - 1)
def RS.cut (R:RS):RS:={ R with frs:=R.frs.set (R.nf - 1) { R.topF with path:=R.topF.path.take (R.topF.path.length - 1) },jp:=R.jp.set (R.nf - 1) (R.topF.pl::nth R.jp (R.nf - 1)) }
def jiH (f:Nat→Nat):Nat→Nat
 | 0=>0
 | n+1=>jiH f n+f n
theorem jfu {f g:Nat→Nat}:∀ {n:Nat},(∀ k,k < n→f k=g k)→jiH f n=jiH g n
 | 0,_=>rfl
 | n+1,h=>by unfold jiH;rw [jfu (n:=n) fun k hk=>h k (by omega),h n (by omega)]
def RS.left (R:RS):Nat:=jiH (fun k=>(nth R.frs k).path.length+1) R.nf
def jbf (p:GProg):Nat→RS→RS
 | 0,R=>R
 | n+1,R=>
  if R.status=2 then R
  else if R.topF.path.length=0 then jbf p n (R.tells p (vZ (nth p.tree.fns R.topF.fn.toNat).ret))
  else if R.topF.pl.at_ < (jb3 p R.topF.pl.block).length then R
  else jbf p n R.cut
def RS.settle (R:RS) (p:GProg):RS:=jbf p (R.left+1) R
end Go.Gd
namespace Go.Proofs.YtfkgcobaheegbaaGreatDoor
open Go Go.Gd
structure PlOk (p:GProg) (fn:Int) (x:GPlace):Prop where
 b0:0≤x.block
 lo:jfb p.tree fn.toNat≤x.block.toNat
 hi:x.block.toNat≤(nth p.tree.fns fn.toNat).body.toNat
 kind:jan p.tree.nodes x.block=18
 a0:0≤x.at_
 a1:x.at_≤(jb3 p x.block).length
structure FrOk (p:GProg) (f:GFrame):Prop where
 f0:0≤f.fn
 f1:f.fn < p.tree.fns.length
 sl:(f.slots.length:Int)=nth p.size f.fn.toNat
 pl:∀ x∈f.path,PlOk p f.fn x
 dec:(f.path.map (·.block)).Pairwise fun a b=>b < a
def jrt (p:GProg) (f:GFrame):Prop:=f.path≠[]∧f.pl.at_ < (jb3 p f.pl.block).length
theorem jlw {f:GFrame} (h:f.path≠[]):f.pl∈f.path:=jaP (by have:=List.length_pos_iff.2 h;omega)
theorem jpF {t:List GNode} {lo hi:Nat} {L:List Int} (h:Chain t lo L hi):lo+L.length≤hi:=by
 induction h with
 | nil=>simp
 | @cons lo c hi L hc h1 h2 i1 i2=>
  have:=h1.le
  simp only [List.length_cons]
  omega
theorem jpG:∀ (l:List GPlace) (n:Nat),(l.Pairwise fun a b=>b.block < a.block)→(∀ x∈l,0≤x.block∧x.block < n)→l.length≤n
 | [],n,_,_=>Nat.zero_le _
 | x::l,n,h,hb=>by
  have hx:=hb x (by simp)
  have:=jpG l x.block.toNat (List.pairwise_cons.1 h).2 fun y hy=>⟨(hb y (by simp [hy])).1,by have:=(List.pairwise_cons.1 h).1 y hy;omega⟩
  simp only [List.length_cons]
  omega
theorem PlOk.in_ {p:GProg} (h:SOk p) {fn:Int} (f0:0≤fn) (f1:fn < p.tree.fns.length) {x:GPlace} (hx:PlOk p fn x):x.block.toNat < p.tree.nodes.length:=by
 have:=jeN h.ok.tree (k:=fn.toNat) (by omega)
 have h1:=this.1
 have h2:=this.2
 have h3:=hx.hi
 omega
theorem PlOk.kid {p:GProg} (h:SOk p) {fn:Int} (f0:0≤fn) (f1:fn < p.tree.fns.length) {x:GPlace} (hx:PlOk p fn x) {a:Int} (ha:a∈jb3 p x.block):0≤a∧a.toNat < x.block.toNat∧jfb p.tree fn.toNat≤a.toNat∧isS (jan p.tree.nodes a):=by
 have hi:=hx.in_ h f0 f1
 have sh:=h.ok.tree.shape x.block.toNat hi
 have h1:=sh.2.1 a ha
 refine ⟨h1.1,h1.2,?_,sh.1.block hx.kind a ha⟩
 have hc:=(h.fns fn.toNat (by omega)).chain
 by_cases e:x.block.toNat < (nth p.tree.fns fn.toNat).body.toNat
 ·exact hc.closed _ hx.lo e a ha
 ·have e:x.block.toNat=(nth p.tree.fns fn.toNat).body.toNat:=by have:=hx.hi;omega
  have ha:a∈(nth p.tree.nodes x.block.toNat).l:=ha
  rw [e] at ha
  exact (hc.mem a ha).2.1
theorem FrOk.len {p:GProg} (h:SOk p) {f:GFrame} (hf:FrOk p f):f.path.length≤300:=by
 have:=jpG f.path p.tree.nodes.length (List.pairwise_map.1 hf.dec) fun x hx=>⟨(hf.pl x hx).b0,by have:=(hf.pl x hx).in_ h hf.f0 hf.f1;have:=(hf.pl x hx).b0;omega⟩
 have:=h.ok.tree.many
 omega
theorem PlOk.at_le {p:GProg} (h:SOk p) {fn:Int} (f0:0≤fn) (f1:fn < p.tree.fns.length) {x:GPlace} (hx:PlOk p fn x):x.at_≤300:=by
 have hi:=hx.in_ h f0 f1
 obtain ⟨lo,hc⟩:=(h.ok.tree.shape x.block.toNat hi).2.2
 have:=jpF hc
 have:=h.ok.tree.many
 have:=hx.a1
 unfold jb3 at this
 omega
theorem j1T {p:GProg} (h:SOk p) {s:GState} (h1:1≤s.frames.length) (h2:s.frames.length≤8) (hf:FrOk p s.top) (hb:jrt p s.top):StAt p s:=by
 have hx:=hf.pl _ (jlw hb.1)
 have hi:=hx.in_ h hf.f0 hf.f1
 have hb1:=hb.2
 have ha0:=hx.a0
 have hb0:=hx.b0
 have hm:atV p s∈jb3 p s.top.pl.block:=jaP (by omega)
 obtain ⟨k0,k1,k2,k3⟩:=hx.kid h hf.f0 hf.f1 hm
 have hl:=hf.len h
 have hat:=hx.at_le h hf.f0 hf.f1
 refine ⟨h1,by omega,List.length_pos_iff.2 hb.1,by omega,hb0,by omega,ha0,hb1,by omega,k0,by omega,h.ok.slots,fun hls=>?_⟩
 have:=(h.fns s.top.fn.toNat (by have:=hf.f0;have:=hf.f1;omega)).all (atV p s).toNat k2 (by have:=hx.hi;omega) (by unfold jfn at hls;unfold jd7;omega)
 have:=hf.sl
 omega
structure InvR (p:GProg) (R:RS):Prop where
 ok:R.Ok
 frs:R.frs.length≤8
 fr:∀ k,k < R.nf→FrOk p (nth R.frs k)
 busy:∀ k,k+1 < R.nf→jrt p (nth R.frs k)
 go:R.status≠2→1≤R.nf
theorem jd8 {α:Type} {l:List α} {i:Nat} {x y:α} (h:x∈l.set i y):x=y∨x∈l:=by
 rcases List.mem_or_eq_of_mem_set h with h | h
 ·exact .inr h
 ·exact .inl h
theorem jnT {p:GProg} {f:GFrame} (h:FrOk p f) (hb:jrt p f):FrOk p (onF f):=by
 have hx:=h.pl _ (jlw hb.1)
 have hb2:=hb.2
 have ha0:=hx.a0
 refine ⟨h.f0,h.f1,h.sl,fun x hm=>?_,?_⟩
 ·rcases jd8 hm with rfl | hm
  ·exact ⟨hx.b0,hx.lo,hx.hi,hx.kind,by show 0≤f.pl.at_+1;omega,by show f.pl.at_+1≤_;show _≤((jb3 p f.pl.block).length:Int);omega⟩
  ·exact h.pl x hm
 ·have e:(onF f).path.map (·.block)=f.path.map (·.block):=by
   have hl:f.path.length - 1 < f.path.length:=by have:=List.length_pos_iff.2 hb.1;omega
   show (f.path.set (f.path.length - 1) _).map _=_
   rw [List.map_set]
   apply List.ext_getElem (by simp)
   intro i h1 h2
   rw [List.getElem_set]
   split
   ·rename_i e
    subst e
    show (nth f.path (f.path.length - 1)).block=_
    rw [jbl hl];simp
   ·rfl
  rw [e];exact h.dec
theorem jxw {p:GProg} {f:GFrame} (h:FrOk p f) (n:Nat):FrOk p { f with path:=f.path.take n }:=
 ⟨h.f0,h.f1,h.sl,fun x hx=>h.pl x (List.mem_of_mem_take hx),by
  show ((f.path.take n).map _).Pairwise _
  rw [List.map_take]
  exact h.dec.sublist (List.take_sublist _ _)⟩
theorem jtR {p:GProg} {f:GFrame} (h:FrOk p f) (i:Nat) (v:GValue):FrOk p { f with slots:=f.slots.set i v }:=⟨h.f0,h.f1,by show ((f.slots.set i v).length:Int)=_;rw [List.length_set];exact h.sl,h.pl,h.dec⟩
theorem InvR.cut {p:GProg} {R:RS} (h:InvR p R) (h1:1≤R.nf) (hp:R.topF.path.length≠0):InvR p R.cut∧R.cut.left+1=R.left:=by
 have hnf:=h.ok.nf
 have hjp:=h.ok.jp
 have hu:∀ k,nth R.cut.frs k=if k=R.nf - 1 then { R.topF with path:=R.topF.path.take (R.topF.path.length - 1) } else nth R.frs k:=fun k=>Go.Gd.nth_upd _ _ _ _ (by omega)
 refine ⟨⟨⟨by show R.nf≤(R.frs.set _ _).length;rw [List.length_set];exact hnf,by show (R.jp.set _ _).length=(R.frs.set _ _).length;rw [List.length_set,List.length_set];exact hjp⟩,by show (R.frs.set _ _).length≤8;rw [List.length_set];exact h.frs,fun k hk=>?_,fun k hk=>?_,h.go⟩,?_⟩
 ·rw [hu]
  split
  ·exact jxw (h.fr _ (by omega)) _
  ·exact h.fr k hk
 ·have hk:k+1 < R.nf:=hk
  rw [hu,if_neg (by omega)]
  exact h.busy k hk
 ·obtain ⟨m,hm⟩:∃ m,R.nf=m+1:=⟨R.nf - 1,by omega⟩
  show jiH _ R.nf+1=jiH _ R.nf
  have hm':R.nf - 1=m:=by omega
  have ht:(nth R.frs m).path.length≠0:=by unfold RS.topF at hp;rw [hm'] at hp;exact hp
  rw [hm]
  unfold jiH
  rw [jfu (n:=m) (g:=fun k=>(nth R.frs k).path.length+1) fun k hk=>by rw [hu,if_neg (by omega)]]
  rw [hu,if_pos hm'.symm]
  show _+((R.topF.path.take (R.topF.path.length - 1)).length+1)+1=_+((nth R.frs m).path.length+1)
  have:R.topF=nth R.frs m:=by unfold RS.topF;rw [hm']
  rw [this,List.length_take]
  omega
theorem InvR.tells {p:GProg} {R:RS} (h:InvR p R) (h1:1≤R.nf) (v:GValue):InvR p (R.tells p v)∧(R.tells p v).left < R.left∧(R.tells p v).nf=R.nf - 1:=by
 have hnf:=h.ok.nf
 have hjp:=h.ok.jp
 obtain ⟨m,hm⟩:∃ m,R.nf=m+1:=⟨R.nf - 1,by omega⟩
 have hsz:jiH (fun k=>(nth R.frs k).path.length+1) m < R.left:=by
  unfold RS.left;rw [hm];show _ < jiH (fun k=>(nth R.frs k).path.length+1) m+((nth R.frs m).path.length+1);omega
 unfold RS.tells
 split
 ·rename_i h2
  refine ⟨⟨⟨by show R.nf - 1≤R.frs.length;omega,hjp⟩,h.frs,fun k hk=>?_,fun k hk=>?_,fun e=>(e rfl).elim⟩,?_,rfl⟩
  ·exact h.fr k (by have hk:k < R.nf - 1:=hk;omega)
  ·exact h.busy k (by have hk:k+1 < R.nf - 1:=hk;omega)
  ·show jiH _ (R.nf - 1) < _
   rw [show R.nf - 1=m by omega];exact hsz
 ·rename_i h2
  have hb:=h.busy (R.nf - 1 - 1) (by omega)
  have hf:=h.fr (R.nf - 1 - 1) (by omega)
  have key:∀ Q:RS,Q.nf=R.nf - 1→Q.frs.length=R.frs.length→Q.jp=R.jp→(∀ k,k≠R.nf - 1 - 1→nth Q.frs k=nth R.frs k)→FrOk p (nth Q.frs (R.nf - 1 - 1))→(nth Q.frs (R.nf - 1 - 1)).path.length=(nth R.frs (R.nf - 1 - 1)).path.length→InvR p Q∧Q.left < R.left∧Q.nf=R.nf - 1:=fun Q q1 q2 q3 q4 q5 q6=>by
   refine ⟨⟨⟨by omega,by rw [q3,q2];exact hjp⟩,by rw [q2];exact h.frs,fun k hk=>?_,fun k hk=>?_,fun _=>by omega⟩,?_,q1⟩
   ·by_cases e:k=R.nf - 1 - 1
    ·subst e;exact q5
    ·rw [q4 k e];exact h.fr k (by omega)
   ·rw [q4 k (by omega)];exact h.busy k (by omega)
   ·unfold RS.left
    rw [q1,show R.nf - 1=m by omega,jfu (g:=fun k=>(nth R.frs k).path.length+1) fun k hk=>?_]
    ·exact hsz
    ·by_cases e:k=R.nf - 1 - 1
     ·subst e;show _+1=_+1;rw [q6]
     ·show _+1=_+1;rw [q4 k e]
  have hk:R.nf - 1 - 1 < R.frs.length:=by omega
  split
  ·have hu:∀ k,nth (R.pop.setS p (atV p R.pop.st) v).frs k=if k=R.nf - 1 - 1 then { nth R.frs (R.nf - 1 - 1) with slots:=(nth R.frs (R.nf - 1 - 1)).slots.set (nth p.slots (atV p R.pop.st).toNat).toNat v } else nth R.frs k:=fun k=>RS.nth_upd (R:=R.pop) hk _ k
   have hl:(R.pop.setS p (atV p R.pop.st) v).frs.length=R.frs.length:=RS.upd_len.symm
   have hu2:∀ k,nth (R.pop.setS p (atV p R.pop.st) v).on.frs k=if k=R.nf - 1 - 1 then onF (nth (R.pop.setS p (atV p R.pop.st) v).frs (R.nf - 1 - 1)) else nth (R.pop.setS p (atV p R.pop.st) v).frs k:=fun k=>RS.nth_upd (by rw [hl];exact hk) _ k
   refine key _ rfl (RS.upd_len.symm.trans hl) rfl (fun k hk'=>by rw [hu2,if_neg hk',hu,if_neg hk']) ?_ ?_
   ·rw [hu2,if_pos rfl,hu,if_pos rfl]
    exact jnT (jtR hf _ _) hb
   ·rw [hu2,if_pos rfl,hu,if_pos rfl]
    simp [onF]
  ·have hu2:∀ k,nth R.pop.on.frs k=if k=R.nf - 1 - 1 then onF (nth R.frs (R.nf - 1 - 1)) else nth R.frs k:=fun k=>RS.nth_upd (R:=R.pop) hk _ k
   refine key _ rfl RS.upd_len.symm rfl (fun k hk'=>by rw [hu2,if_neg hk']) ?_ ?_
   ·rw [hu2,if_pos rfl];exact jnT hf hb
   ·rw [hu2,if_pos rfl];simp [onF]
theorem jcJ {p:GProg}:∀ (n m:Nat) (R:RS),InvR p R→R.left < n→R.left < m→jbf p n R=jbf p m R
 | 0,_,R,_,h,_=>by omega
 | n+1,0,R,_,_,h=>by omega
 | n+1,m+1,R,hI,h1,h2=>by
  unfold jbf
  by_cases e:R.status=2
  ·rw [if_pos e,if_pos e]
  rw [if_neg e,if_neg e]
  have hg:=hI.go e
  by_cases e1:R.topF.path.length=0
  ·rw [if_pos e1,if_pos e1]
   obtain ⟨a,b,_⟩:=hI.tells hg (vZ (nth p.tree.fns R.topF.fn.toNat).ret)
   exact jcJ n m _ a (by omega) (by omega)
  rw [if_neg e1,if_neg e1]
  by_cases e2:R.topF.pl.at_ < (jb3 p R.topF.pl.block).length
  ·rw [if_pos e2,if_pos e2]
  rw [if_neg e2,if_neg e2]
  obtain ⟨a,b⟩:=hI.cut hg e1
  exact jcJ n m _ a (by omega) (by omega)
end Go.Proofs.YtfkgcobaheegbaaGreatDoor
namespace Go.Gd
open Go
def RS.of (s:GState):RS:=⟨s.frames,s.frames.length,s.frames.map fun _=>[],s.heap,s.in_,s.out_,s.status,s.trap,s.time⟩
def RS.push (R:RS) (f:GFrame):RS:={ R with frs:=R.frs++[f],nf:=R.nf+1,jp:=R.jp++[[]] }
def RS.store (R:RS) (p:GProg) (node:Int) (v:GValue):RS:=(R.setS p node v).on
def RS.deeper (R:RS) (block:Int):RS:=R.upd (R.nf - 1) { R.topF with path:=R.topF.path++[⟨block,0⟩] }
def jbi (p:GProg) (fn:Int) (args:List GValue):GFrame:=⟨fn,args++List.replicate ((nth p.size fn.toNat) - args.length).toNat v0,[⟨(nth p.tree.fns fn.toNat).body,0⟩]⟩
def jhe:GState:=⟨[],[],0,[],0,0,0⟩
def jdU (p:GProg):Int:=jcR GFunc.name (⟨#[109,97,105,110]⟩:ByteArray) p.tree.fns 0
def jiD (p:GProg):GState:=((RS.of { jhe with frames:=[jbi p (jdU p) []] }).settle p).st
def jav (p:GProg) (s:GState):Int:=if s.status=2∨s.status=3 then -1 else atV p s
def jfv (n:Int) (l:List Int):Int:=n+l.length
def jbh (h:List (List Int)):Int:=h.foldl jfv (h.length:Int)
def RS.val (R:RS) (p:GProg) (node:Int):GValue×Int:=jaY p R.topF.slots R.heap p.tree.nodes.length node
def RS.args (R:RS) (p:GProg):List Int→List GValue→List GValue×Int
 | [],a=>(a,0)
 | x::l,a=>if (R.val p x).2≠0 then (a,(R.val p x).2) else R.args p l (a++[(R.val p x).1])
def jak (p:GProg) (a:Int):GNode:=nth p.tree.nodes a.toNat
def RS.call (R:RS) (p:GProg) (node:Int):RS×Int:=
 let a:=R.args p (jak p node).l []
 if a.2≠0 then (R,a.2)
 else if 8≤R.nf then (R,3)
 else (R.push (jbi p (jcR GFunc.name (jak p node).name p.tree.fns 0) a.1),0)
def RS.fresh (R:RS) (p:GProg) (node:Int):RS×GValue×Int:=
 let v:=R.val p (nth (jak p node).l 0)
 if v.2≠0 then (R,v0,v.2)
 else if v.1.n < 0∨16 < v.1.n then (R,v0,7)
 else if 40 < jbh R.heap+v.1.n+1 then (R,v0,4)
 else ({ R with heap:=R.heap++[List.replicate v.1.n.toNat 0] },⟨4,R.heap.length+1,sE⟩,0)
def RS.right (R:RS) (p:GProg) (node:Int) (inp:List Int):RS×Int:=
 let x:=nth (jak p node).l 0
 let k:=(jak p x).kind
 if k=21 then R.call p x
 else if k=19 then (({ R with in_:=R.in_+1 }:RS).store p node (vI (nth inp R.in_.toNat)),0)
 else if k=20 then
  let r:=R.fresh p x
  if r.2.2=0 then (r.1.store p node r.2.1,0) else (r.1,r.2.2)
 else
  let v:=R.val p x
  if v.2=0 then (R.store p node v.1,0) else (R,v.2)
def RS.put (R:RS) (p:GProg) (node:Int):RS×Int:=
 let x:=R.val p (nth (jak p node).l 0)
 let y:=R.val p (nth (jak p node).l 1)
 let v:=jgh R.topF.slots (nth p.slots node.toNat) 4
 if x.2≠0 then (R,x.2)
 else if y.2≠0 then (R,y.2)
 else if x.1.n < 0∨((jb2 R.heap v).length:Int)≤x.1.n then (R,2)
 else (({ R with heap:=R.heap.set (v.n - 1).toNat ((nth R.heap (v.n - 1).toNat).set x.1.n.toNat y.1.n) }:RS).on,0)
def juV (n:Int):ByteArray:=⟨(Lib.itoa n).toArray⟩
def jeh (v:GValue):ByteArray:=
 if v.ty=1 then juV v.n
 else if v.ty=2 then (if v.n=1 then (⟨#[116,114,117,101]⟩:ByteArray) else (⟨#[102,97,108,115,101]⟩:ByteArray))
 else if v.ty=3 then v.s
 else if v.ty=4 then (⟨#[108,105,115,116]⟩:ByteArray)
 else sE
def RS.does (R:RS) (p:GProg) (node:Int) (inp:List Int):RS×Int:=
 let n:=jak p node
 let v:=R.val p (nth n.l 0)
 if n.kind=10∨n.kind=11 then R.right p node inp
 else if n.kind=13 then R.call p (nth n.l 0)
 else if n.kind=12 then R.put p node
 else if n.kind=17 then
  (if n.l.length=0 then (R.tells p v0,0)
  else if v.2≠0 then (R,v.2) else (R.tells p v.1,0))
 else if v.2≠0 then (R,v.2)
 else if n.kind=14 then
  (if 24≤R.out_.length then (R,5) else (({ R with out_:=R.out_++[jeh v.1] }:RS).on,0))
 else if n.kind=15 then
  (if v.1.n=1 then (R.on.deeper (nth n.l 1),0)
  else if n.l.length=3 then (R.on.deeper (nth n.l 2),0) else (R.on,0))
 else if n.kind=16 then
  (if v.1.n=1 then (R.deeper (nth n.l 1),0) else (R.on,0))
 else (R,0)
def jbR (p:GProg) (s:GState) (node:Int) (inp:List Int):Prop:=jfn p node∧(jak p (nth (jak p node).l 0)).kind=19∧(inp.length:Int)≤s.in_
instance (p:GProg) (s:GState) (node:Int) (inp:List Int):Decidable (jbR p s node inp):=by unfold jbR;infer_instance
def jbc (p:GProg) (s:GState) (inp:List Int):GState:=
 if jav p s < 0 then s
 else if jbR p s (jav p s) inp then { s with status:=1 }
 else
  let r:=(RS.of { s with status:=0 }).does p (jav p s) inp
  if r.2≠0 then { s with status:=3,trap:=r.2,time:=s.time+1 }
  else (({ r.1 with time:=s.time+1 }:RS).settle p).st
def jbS (p:GProg) (inp:List Int):Nat→GState
 | 0=>jiD p
 | n+1=>jbc p (jbS p inp n) inp
end Go.Gd
