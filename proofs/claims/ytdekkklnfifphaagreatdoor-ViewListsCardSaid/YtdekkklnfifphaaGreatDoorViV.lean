/- What is seen, as lines: the document's. What is seen, as lines, and whether two are the same: the program's. Whether two views are the same: the program's. No conditions. -/
import Derived.Test.YtdekkklnfifphaaGreatDoorViO
import Derived.Test.YtdekkklnfifphaaGreatDoorViQ
set_option linter.all false
namespace Go.Gd
open Go
structure ViewOk (v:GView):Prop where
 calls:v.calls.length≤1000
 call:∀ c∈v.calls,c.vars.length≤100000∧c.name.size≤1000∧rng c.line∧∀ x∈c.vars,x.name.size≤1000∧x.text.size≤100000
 outs:v.out_.length≤1000
 out:∀ t∈v.out_,t.size≤1000
 in_:rng v.in_
 trap:rng v.trap
theorem jjx:∀ (l:List GShown) (t:ByteArray),(∀ x∈l,x.name.size≤1000∧x.text.size≤100000)→(l.foldl jds t).size≤t.size+101002 * l.length
 | [],t,_=>by simp
 | x::l,t,h=>by
  have h1:=jjx l (jds t x) fun y hy=>h y (by simp [hy])
  obtain ⟨a,b⟩:=h x (by simp)
  have h2:(jds t x).size≤t.size+101002:=by
   unfold jds
   rw [ByteArray.size_append,ByteArray.size_append,ByteArray.size_append,ByteArray.size_append]
   show t.size+1+x.name.size+1+x.text.size≤_
   omega
  simp only [List.foldl_cons,List.length_cons]
  omega
end Go.Gd
namespace Go.Proofs.YtdekkklnfifphaaGreatDoor
open Go Go.Gd
set_option maxHeartbeats 4000000
set_option maxRecDepth 10000
theorem jlT (a b:List ByteArray) (ha:a.length≤1000000000):PCall Tryz.prog 25 [jaI eS 1 a,jaI eS 1 b] (rB (decide (a=b))):=by
 refine jbO Tryz.func25 Tryz.ntmps25 ?_
 (repeat' (first|refine jaa fun K hK=>?_|refine wkA ?_|(refine hK _ _ ?_;clear hK K)|(refine jad (fun hc=>?_) (fun hc=>?_)<;>first | contradiction | (exfalso;omega) | skip)|refine wkB ?_|exact True.intro|(clear hK K)))
 ·(refine jaU [.tmp 4] ?_;try simp only [go_sem])
  rw [show decide (a=b)=false from decide_eq_false fun h=>hc (by rw [h])]
 have hl:a.length=b.length:=by omega
 have hKo:=hK;clear hK
 refine jag (S:=Nat) [(4,2),(11,15)] (fun k=>k≤a.length∧∀ j,j < k→nth a j=nth b j) (fun k=>[(5,rI k)]) (fun k=>⟨[],[]⟩) (fun k=>a.length - k) 0 ⟨by omega,fun j h=>by omega⟩ (jau (by simp only [go_sem]) lle) ?_
 rintro k ⟨hk1,hk2⟩ Kr hKr
 (refine S ?_;try exact True.intro)
 (repeat' (first|refine jaa fun K hK=>?_|refine wkA ?_|(with_reducible refine gR 6 ?_);refine dE 6 [0,1,2,3,4,5,6,7,8] mixed ?_|(refine hK _ _ ?_;clear hK K)|(refine jad (fun hc=>?_) (fun hc=>?_)<;>first | contradiction | (exfalso;omega) | skip)|(refine hKo _ _ ?_)|refine wkB ?_|exact True.intro|(clear hK K)))
 ·(refine jaU [.tmp 4] ?_;try simp only [go_sem])
  rw [show decide (a=b)=false from decide_eq_false fun h=>hc (by rw [h])]
 ·refine hKr _ _ (jar (k+1) ⟨by omega,fun j hj=>?_⟩ (by (try simp only);omega) (by simp only [go_sem]) lle)
  by_cases h:j < k
  ·exact hk2 j h
  ·rw [show j=k by omega];exact hc
 ·(refine jaU [.tmp 4] ?_;try simp only [go_sem])
  rw [show decide (a=b)=true from decide_eq_true (jcr hl fun j hj=>hk2 j (by omega))]
theorem jkr (a b:GView) (h1:a.out_.length≤1000) (h2:a.calls.length≤1000) (h3:∀ c∈a.calls,c.vars.length≤100000):PCall Tryz.prog 21 [.agg (ja4 a),.agg (ja4 b)] (rB (decide (a=b))):=by
 have no:∀ {q:Prop},¬ q→(a=b→q)→rB false=rB (decide (a=b)):=fun h1 h2=>by rw [decide_eq_false fun h=>h1 (h2 h)]
 have htx:=jlT a.out_ b.out_ (by omega)
 by_cases ho:a.out_=b.out_
 rotate_left
 ·rw [decide_eq_false ho] at htx
  refine jbO Tryz.func21 Tryz.ntmps21 ?_
  (repeat' (first|refine jaa fun K hK=>?_|refine wkA ?_|(refine hK _ _ ?_;clear hK K)|(refine jad (fun hc=>?_) (fun hc=>?_)<;>first | contradiction | (exfalso;omega) | skip)|refine cp (htx) ?_|refine wkB ?_|exact True.intro|(clear hK K)))
  all_goals (refine jaU [.tmp 4] ?_;try simp only [go_sem])
  all_goals exact no ho (fun e=>by rw [e])
 rw [decide_eq_true ho] at htx
 refine jbO Tryz.func21 Tryz.ntmps21 ?_
 (repeat' (first|refine jaa fun K hK=>?_|refine wkA ?_|(refine hK _ _ ?_;clear hK K)|(refine jad (fun hc=>?_) (fun hc=>?_)<;>first | contradiction | (exfalso;omega) | skip)|refine cp (htx) ?_|refine wkB ?_|exact True.intro|(clear hK K)))
 ·(refine jaU [.tmp 4] ?_;try simp only [go_sem])
  exact (no (fun h=>h) fun e=>by subst e;revert hc;simp)
 have hln:((a.in_=b.in_∧a.status=b.status)∧a.trap=b.trap)∧a.calls.length=b.calls.length:=by
  revert hc;simp only [Classical.not_not,not_or,Int.natCast_inj];exact id
 obtain ⟨⟨⟨q1,q2⟩,q3⟩,q4⟩:=hln
 clear hc
 have hKo:=hK;clear hK
 refine jag (S:=Nat) [(4,1),(6,4),(47,56)] (fun k=>k≤a.calls.length∧∀ j,j < k→nth a.calls j=nth b.calls j) (fun k=>[(6,rI k)]) (fun k=>⟨[],[(0,.var 52 (ja4 a)),(1,.var 52 (ja4 b))]⟩) (fun k=>a.calls.length - k) 0 ⟨by omega,fun j h=>by omega⟩ (jau rfl lle) ?_
 rintro k ⟨hk1,hk2⟩ Kr hKr
 by_cases hk:k < a.calls.length
 rotate_left
 ·have e5:a.calls=b.calls:=jcr q4 fun j hj=>hk2 j (by omega)
  have hke:k=a.calls.length:=by omega
  subst hke
  (refine S ?_;try exact True.intro)
  (repeat' (first|refine jaa fun K hK=>?_|refine wkA ?_|(refine hK _ _ ?_;clear hK K)|(refine jad (fun hc=>?_) (fun hc=>?_)<;>first | contradiction | (exfalso;omega) | skip)|(refine hKo _ _ ?_)|refine wkB ?_|exact True.intro|(clear hK K)))
  (refine jaU [.tmp 4] ?_;try simp only [go_sem])
  rw [decide_eq_true]
  cases a;cases b;simp_all
 have g2:=h3 _ (jam hk)
 generalize hx:nth a.calls k=x at *
 generalize hy:nth b.calls k=y at *
 (refine S ?_;try exact True.intro)
 (have W:=And.intro hx (hy);repeat' (first|refine jaa fun K hK=>?_|refine wkA ?_|(refine hK _ _ ?_;clear hK K)|(refine jad (fun hc=>?_) (fun hc=>?_)<;>first | contradiction | (exfalso;omega) | skip)|refine al 2 ?_|refine al 3 ?_|refine wkB ?_|exact True.intro|(clear hK K)));all_goals (try clear W)
 ·(refine jaU [.tmp 4] ?_;try simp only [go_sem])
  exact no (fun h=>h) fun e=>by rw [e,hy] at hx;subst hx;revert hc;simp
 have hln:(x.name=y.name∧x.line=y.line)∧x.vars.length=y.vars.length:=by
  revert hc;simp only [Classical.not_not,not_or,Int.natCast_inj];exact id
 obtain ⟨⟨r1,r2⟩,r3⟩:=hln
 clear hc
 have hKb:=hK;clear hK
 refine jag (S:=Nat) [(4,1),(9,1),(85,18)] (fun i=>i≤x.vars.length∧∀ j,j < i→nth x.vars j=nth y.vars j) (fun i=>[(9,rI i)]) (fun i=>⟨[],[(0,.var 52 (ja4 a)),(1,.var 52 (ja4 b)),(2,.var 56 (jbC x)),(3,.var 56 (jbC y))]⟩) (fun i=>x.vars.length - i) 0 ⟨by omega,fun j h=>by omega⟩ (jau rfl lle) ?_
 rintro i ⟨hi1,hi2⟩ Ks hKs
 by_cases hi:i < x.vars.length
 ·(refine S ?_;try exact True.intro)
  (repeat' (first|refine jaa fun K hK=>?_|refine wkA ?_|(with_reducible refine gR 14 ?_);refine dE 14 [0,1,2,3,4,5,6,7,8,9,10] mixed ?_|(refine hK _ _ ?_;clear hK K)|(refine jad (fun hc=>?_) (fun hc=>?_)<;>first | contradiction | (exfalso;omega) | skip)|refine wkB ?_|exact True.intro|(clear hK K)))
  ·(refine jaU [.tmp 4] ?_;try simp only [go_sem])
   exact no hc (fun e=>by rw [← hx,← hy,e])
  ·refine hKs _ _ (jar (i+1) ⟨by omega,fun j hj=>?_⟩ (by (try simp only);omega) (by simp only [go_sem]) lle)
   by_cases h:j < i
   ·exact hi2 j h
   ·rw [show j=i by omega];exact hc
 have e6:x.vars=y.vars:=jcr r3 fun j hj=>hi2 j (by omega)
 have hie:i=x.vars.length:=by omega
 subst hie
 (refine S ?_;try exact True.intro)
 (repeat' (first|refine jaa fun K hK=>?_|refine wkA ?_|(refine hK _ _ ?_;clear hK K)|(refine jad (fun hc=>?_) (fun hc=>?_)<;>first | contradiction | (exfalso;omega) | skip)|(refine hKb _ _ ?_)|refine wkB ?_|exact True.intro|(clear hK K)))
 refine hKr _ _ (jaM [2,3] (k+1) ⟨by omega,fun j hj=>?_⟩ (by (try simp only);omega) rfl Sd (by simp only [go_sem];(try rfl)) vtl)
 by_cases h:j < k
 ·exact hk2 j h
 ·rw [show j=k by omega,hx,hy];cases x;cases y;simp_all
theorem jqD (v:GView) (h:ViewOk v):PCall Tryz.prog 27 [.agg (ja4 v)] (jaI eS 1 (jbU v)):=by
 have hcs:=h.calls
 have hos:=h.outs
 have hin:=jcY v.in_ h.in_
 have hins:=jbe h.in_
 have htr:=jcY v.trap h.trap
 have htrs:=jbe h.trap
 refine jbO Tryz.func27 Tryz.ntmps27 ?_
 (repeat' (first|refine jaa fun K hK=>?_|refine wkA ?_|(refine hK _ _ ?_;clear hK K)|(refine jad (fun hc=>?_) (fun hc=>?_)<;>first | contradiction | (exfalso;omega) | skip)|refine bx 0 ?_|refine jsg 1 ?_|refine wkB ?_|exact True.intro|(clear hK K)))
 have hKo:=hK;clear hK
 refine jag (S:=Nat) [(3,5),(11,48)] (fun i=>i≤v.calls.length) (fun i=>[(4,rI i),(3,.rs 1 i 1 i)]) (fun i=>⟨[],[(0,.var 52 (ja4 v)),(1,.vec 9 1 (((v.calls.take i).map jei).map eS))]⟩) (fun i=>v.calls.length - i) 0 (by omega) (jau rfl lle) ?_
 rintro i hi Kr hKr
 have hml:((v.calls.take i).map jei).length=i:=by simp;omega
 by_cases hlt:i < v.calls.length
 ·obtain ⟨c1,c2,c3,c4⟩:=h.call _ (jam hlt)
  generalize hcd:nth v.calls i=c at *
  have hit:=jcY c.line c3
  have his:=jbe c3
  (refine S ?_;try exact True.intro)
  (have W:=hcd;repeat' (first|refine jaa fun K hK=>?_|refine wkA ?_|(with_reducible refine gR 6 ?_);refine dQ 6 mixed ?_|(refine hK _ _ ?_;clear hK K)|(refine jad (fun hc=>?_) (fun hc=>?_)<;>first | contradiction | (exfalso;omega) | skip)|refine cq (hit) ?_|refine al 5 ?_|refine wkB ?_|exact True.intro|(clear hK K)));all_goals (try clear W)
  generalize hT0:(⟨#[97,116,32]⟩:ByteArray)++c.name++(⟨#[32]⟩:ByteArray)++jbJ c.line=T0 at *
  have hT0s:T0.size≤2000:=by
   rw [← hT0,ByteArray.size_append,ByteArray.size_append,ByteArray.size_append]
   show 3+c.name.size+1+(jbJ c.line).size≤2000
   omega
  have hKb:=hK;clear hK
  have hKa:=hK;clear hK
  have hT00:T0=(c.vars.take 0).foldl jds T0:=rfl
  refine jag (S:=Nat) [(6,2),(31,24)] (fun k=>k≤c.vars.length) (fun k=>[(7,rI k),(6,rS ((c.vars.take k).foldl jds T0))]) (fun k=>⟨[],[(0,.var 52 (ja4 v)),(1,.vec 9 1 (((v.calls.take i).map jei).map eS)),(5,.var 56 (jbC c))]⟩) (fun k=>c.vars.length - k) 0 (by omega) (jau rfl lle) ?_
  rintro k hk Ks hKs
  have hTs:=jjx (c.vars.take k) T0 fun x hx=>c4 x (List.mem_of_mem_take hx)
  have htl:(c.vars.take k).length≤100000:=by simp;omega
  by_cases hkl:k < c.vars.length
  ·obtain ⟨x1,x2⟩:=c4 _ (jam hkl)
   have hfs:(c.vars.take (k+1)).foldl jds T0=jds ((c.vars.take k).foldl jds T0) (nth c.vars k):=by rw [ja8 hkl,List.foldl_append];rfl
   generalize (c.vars.take k).foldl jds T0=T at *
   generalize hxd:nth c.vars k=x at *
   (refine S ?_;try exact True.intro)
   (have W:=hxd;repeat' (first|refine jaa fun K hK=>?_|refine wkA ?_|(with_reducible refine gR 10 ?_);refine dE 10 [0,1,2,3,4,5,6,7,8,9,10,11,12,13,14,15,16,17] mixed ?_|(refine hK _ _ ?_;clear hK K)|(refine jad (fun hc=>?_) (fun hc=>?_)<;>first | contradiction | (exfalso;omega) | skip)|refine wkB ?_|exact True.intro|(clear hK K)));all_goals (try clear W)
   refine hKs _ _ (jar (k+1) (by omega) (by show c.vars.length - (k+1) < c.vars.length - k;omega) rfl (by rw [hfs];unfold jds;exact lle))
  ·have hke:k=c.vars.length:=by omega
   subst hke
   rw [List.take_length] at hTs ⊢
   have hseen:jei c=c.vars.foldl jds T0:=by unfold jei;rw [hT0]
   rw [← hseen]
   (refine S ?_;try exact True.intro)
   (have W:=hml;repeat' (first|refine jaa fun K hK=>?_|refine wkA ?_|(refine hK _ _ ?_;clear hK K)|(refine jad (fun hc=>?_) (fun hc=>?_)<;>first | contradiction | (exfalso;omega) | skip)|(refine hKb _ _ ?_)|(refine hKa _ _ ?_)|refine wkB ?_|exact True.intro|(clear hK K)));all_goals (try clear W)
   refine hKr _ _ (jaM [5] (i+1) (by omega) (by show v.calls.length - (i+1) < v.calls.length - i;omega) rfl Sd ?_ vtl)
   show Hp.mk _ [_,(1,_)]=Hp.mk _ [_,(1,.vec _ _ (((v.calls.take (i+1)).map jei).map eS))]
   rw [ja8 hlt,hcd]
   simp only [List.map_append];rfl
 ·have hie:i=v.calls.length:=by omega
  subst hie
  rw [List.take_length] at hml ⊢
  (refine S ?_;try exact True.intro)
  (repeat' (first|refine jaa fun K hK=>?_|refine wkA ?_|(refine hK _ _ ?_;clear hK K)|(refine jad (fun hc=>?_) (fun hc=>?_)<;>first | contradiction | (exfalso;omega) | skip)|(refine hKo _ _ ?_)|refine wkB ?_|exact True.intro|(clear hK K)))
  have hKo:=hK;clear hK
  refine jag (S:=Nat) [(3,1),(8,1),(59,16)] (fun j=>j≤v.out_.length) (fun j=>[(8,rI j),(3,.rs 1 (v.calls.length+j) 1 (v.calls.length+j))]) (fun j=>⟨[],[(0,.var 52 (ja4 v)),(1,.vec 9 1 ((v.calls.map jei++(v.out_.take j).map jv2).map eS))]⟩) (fun j=>v.out_.length - j) 0 (by omega) (jau (by simp) lle) ?_
  rintro j hj Ks hKs
  have hmj:(v.calls.map jei++(v.out_.take j).map jv2).length=v.calls.length+j:=by simp;omega
  by_cases hjl:j < v.out_.length
  ·have ho:=h.out _ (jam hjl)
   generalize hod:nth v.out_ j=o at *
   (refine S ?_;try exact True.intro)
   (have W:=And.intro hmj (hod);repeat' (first|refine jaa fun K hK=>?_|refine wkA ?_|(refine hK _ _ ?_;clear hK K)|(refine jad (fun hc=>?_) (fun hc=>?_)<;>first | contradiction | (exfalso;omega) | skip)|refine wkB ?_|exact True.intro|(clear hK K)));all_goals (try clear W)
   refine hKs _ _ (jar (j+1) (by omega) (by show v.out_.length - (j+1) < v.out_.length - j;omega) ?_ lle)
   show Hp.mk _ [_,(1,_)]=Hp.mk _ [_,(1,.vec _ _ ((v.calls.map jei++(v.out_.take (j+1)).map jv2).map eS))]
   rw [ja8 hjl,hod]
   simp only [List.map_append,List.append_assoc];rfl
  ·have hje:j=v.out_.length:=by omega
   subst hje
   rw [List.take_length] at hmj ⊢
   (refine S ?_;try exact True.intro)
   (have W:=hmj;repeat' (first|refine jaa fun K hK=>?_|refine wkA ?_|(refine hK _ _ ?_;clear hK K)|(refine jad (fun hc=>?_) (fun hc=>?_)<;>first | contradiction | (exfalso;omega) | skip)|refine cp (hin) ?_|refine cp (htr) ?_|(refine hKo _ _ ?_)|refine wkB ?_|exact True.intro|(clear hK K)));all_goals (try clear W)
   all_goals refine jfG [.tmp 2] ?_
   all_goals refine VTo.row (e:=9) (jbU v) rfl ?_ (by simp [jbU];try omega)
   all_goals unfold jbU jfo
   all_goals (repeat' split)
   all_goals first
    | contradiction
    | (exfalso;omega)
    | (simp only [List.map_append];rfl)
theorem jpj {p:GProg} (h:POk p) (hfn:∀ k,k < p.tree.nodes.length→0≤nth p.fn k∧nth p.fn k < p.tree.fns.length) {s:GState} (ha:AtAll p s) (hf:Fits s) (ho:ShotOk p (jcJ p s)):PCall Tryz.prog 24 [.agg (jah p),.agg (jal s)] (.agg (ja4 (ofV p (jcJ p s)))):=by
 have h1:=jok ha hf
 have h2:=jzs h hfn ho
 refine jbO Tryz.func24 Tryz.ntmps24 ?_
 (repeat' (first|refine jaa fun K hK=>?_|refine wkA ?_|(with_reducible refine gR 1 ?_);refine dC 1 ([],[8],[]) [] [0,1,2,3,4,5] mixed ?_|(refine hK _ _ ?_;clear hK K)|(refine jad (fun hc=>?_) (fun hc=>?_)<;>first | contradiction | (exfalso;omega) | skip)|refine bx 0 ?_|refine bx 1 ?_|refine al 2 ?_|refine cq (h1) ?_|refine cp (h2) ?_|refine wkB ?_|exact True.intro|(clear hK K)))
 (refine jaU [.cell 4 52] ?_;try simp only [go_sem])
end Go.Proofs.YtdekkklnfifphaaGreatDoor
namespace Go.Gd
open Go
def jq1 (x:GShown):ByteArray:=x.name++(⟨#[61]⟩:ByteArray)++x.text
theorem jjy:∀ (l:List GShown) (T:ByteArray),(l.foldl jds T).data.toList=T.data.toList++Lib.joinTail [32] ((l.map jq1).map (·.data.toList))
 | [],T=>by simp [Lib.joinTail]
 | x::l,T=>by
  rw [List.foldl_cons,jjy l]
  unfold jds
  rw [jel,jel,jel,jel]
  simp [Lib.joinTail,List.append_assoc,jq1]
def jdF (c:GSeen) (k:Nat):List ByteArray:=[(⟨#[97,116]⟩:ByteArray),c.name,jbJ c.line]++(c.vars.take k).map jq1
theorem jrt (c:GSeen):jhi (jdF c c.vars.length) (⟨#[32]⟩:ByteArray)=jei c:=by
 apply jiV
 unfold jdF jei
 rw [List.take_length,List.cons_append,jgB,jjy,jel,jel,jel]
 simp [Lib.joinTail,List.append_assoc]
end Go.Gd
namespace Go.Proofs.YtdekkklnfifphaaGreatDoor
open Go Go.Gd
set_option maxHeartbeats 4000000
set_option maxRecDepth 10000
theorem js9 (v:GView) (h:ViewOk v) (hst:0≤v.status∧v.status≤3):PCall Tryz.prog 26 [.agg (ja4 v)] (jaI eS 1 (jbU v)):=by
 have hcs:=h.calls
 have hos:=h.outs
 have hin:=jcY v.in_ h.in_
 have hins:=jbe h.in_
 have htr:=jcY v.trap h.trap
 have htrs:=jbe h.trap
 refine jbO Tryz.func26 Tryz.ntmps26 ?_
 (repeat' (first|refine jaa fun K hK=>?_|refine wkA ?_|(refine hK _ _ ?_;clear hK K)|(refine jad (fun hc=>?_) (fun hc=>?_)<;>first | contradiction | (exfalso;omega) | skip)|refine bx 0 ?_|refine wkB ?_|exact True.intro|(clear hK K)))
 refine jaD (FLe.nil 1 3 9 (sz:=1) rfl (by decide) (Or.inl rfl)) ?_
 (refine S ?_;try exact True.intro)
 have hKo:=hK;clear hK
 refine jag (S:=Nat) [(3,1),(5,2),(8,1),(15,33)] (fun i=>i≤v.calls.length) (fun i=>[(15,rI i),(3,.rs 1 i 1 i)]) (fun i=>⟨[],[(0,.var 52 (ja4 v)),(1,.vec 9 1 (((v.calls.take i).map jei).map eS))]⟩) (fun i=>v.calls.length - i) 0 (by omega) (jau rfl lle) ?_
 rintro i hi Kr hKr
 have hml:((v.calls.take i).map jei).length=i:=by simp;omega
 by_cases hlt:i < v.calls.length
 ·obtain ⟨c1,c2,c3,c4⟩:=h.call _ (jam hlt)
  generalize hcd:nth v.calls i=c at *
  have hit:=jcY c.line c3
  have his:=jbe c3
  (refine S ?_;try exact True.intro)
  (have W:=hcd;repeat' (first|refine jaa fun K hK=>?_|refine wkA ?_|(with_reducible refine gR 5 ?_);refine dC 5 ([],[23],[24]) [] [0,1,2,3,4,5,6] mixed ?_|(refine hK _ _ ?_;clear hK K)|(refine jad (fun hc=>?_) (fun hc=>?_)<;>first | contradiction | (exfalso;omega) | skip)|refine cq (hit) ?_|refine alF 5 ?_|refine j0T 6 ?_|refine wkB ?_|exact True.intro|(clear hK K)));all_goals (try clear W)
  have hKb:=hK;clear hK
  have hKa:=hK;clear hK
  have hwl:∀ k,k≤c.vars.length→(jdF c k).length=3+k:=fun k hk=>by unfold jdF;simp;omega
  refine jag (S:=Nat) [(6,1),(8,1),(28,14)] (fun k=>k≤c.vars.length) (fun k=>[(28,rI k),(6,.rs 6 (3+k) 1 (3+k))]) (fun k=>⟨[],[(0,.var 52 (ja4 v)),(1,.vec 9 1 (((v.calls.take i).map jei).map eS)),(5,.var 56 (jbC c)),(6,.vec 9 1 ((jdF c k).map eS))]⟩) (fun k=>c.vars.length - k) 0 (by omega) (jau rfl lle) ?_
  rintro k hk Ks hKs
  have hwk:=hwl k hk
  by_cases hkl:k < c.vars.length
  ·obtain ⟨x1,x2⟩:=c4 _ (jam hkl)
   have hwn:jdF c (k+1)=jdF c k++[jq1 (nth c.vars k)]:=by unfold jdF;rw [ja8 hkl];simp
   generalize hxd:nth c.vars k=x at *
   generalize jdF c k=wl at *
   (refine S ?_;try exact True.intro)
   (have W:=And.intro hxd (hwk);repeat' (first|refine jaa fun K hK=>?_|refine wkA ?_|(refine hK _ _ ?_;clear hK K)|(refine jad (fun hc=>?_) (fun hc=>?_)<;>first | contradiction | (exfalso;omega) | skip)|refine alF 8 ?_|refine wkB ?_|exact True.intro|(clear hK K)));all_goals (try clear W)
   refine hKs _ _ (jaM [8] (k+1) (by omega) (by show c.vars.length - (k+1) < c.vars.length - k;omega) rfl Sd ?_ vtl)
   show Hp.mk _ [_,_,_,(6,_)]=Hp.mk _ [_,_,_,(6,.vec _ _ ((jdF c (k+1)).map eS))]
   rw [hwn]
   simp only [List.map_append];rfl
  ·have hke:k=c.vars.length:=by omega
   subst hke
   have hsj:=jrt c
   have hjl:=jj8 (jdF c c.vars.length) (⟨#[32]⟩:ByteArray) 110000 fun y hy=>by
    unfold jdF at hy
    rcases List.mem_append.1 hy with hy | hy
    ·simp only [List.mem_cons,List.not_mem_nil,or_false] at hy
     rcases hy with rfl | rfl | rfl
     ·exact Nat.le_trans (show 2≤100 by decide) (by omega)
     ·omega
     ·omega
    ·obtain ⟨z,hz,rfl⟩:=List.mem_map.1 hy
     obtain ⟨z1,z2⟩:=c4 z (List.mem_of_mem_take hz)
     unfold jq1
     rw [ByteArray.size_append,ByteArray.size_append]
     show z.name.size+1+z.text.size≤_
     omega
   have hjm:(jdF c c.vars.length).length * (((⟨#[32]⟩:ByteArray):ByteArray).size+110000)≤140737488355328:=by
    rw [hwk]
    have:((⟨#[32]⟩:ByteArray):ByteArray).size=1:=rfl
    rw [this];omega
   generalize jdF c c.vars.length=wl at *
   (refine S ?_;try exact True.intro)
   (have W:=And.intro hml (hwk);repeat' (first|refine jaa fun K hK=>?_|refine wkA ?_|(refine hK _ _ ?_;clear hK K)|(refine jad (fun hc=>?_) (fun hc=>?_)<;>first | contradiction | (exfalso;omega) | skip)|(refine cJ wl (⟨#[32]⟩:ByteArray) rfl hwk.symm (Nat.le_trans hjl hjm) (by clear hjl hjm;omega) (by simp only [go_sem]) ?_;(refine S ?_;try exact True.intro))|(refine hKb _ _ ?_)|(refine hKa _ _ ?_)|refine wkB ?_|exact True.intro|(clear hK K)));all_goals (try clear W)
   clear hjl hjm
   rw [hsj]
   refine hKr _ _ (jaM [5,6] (i+1) (by omega) (by show v.calls.length - (i+1) < v.calls.length - i;omega) rfl Sd ?_ vtl)
   show Hp.mk _ [_,(1,_)]=Hp.mk _ [_,(1,.vec _ _ (((v.calls.take (i+1)).map jei).map eS))]
   rw [ja8 hlt,hcd]
   simp only [List.map_append];rfl
 ·have hie:i=v.calls.length:=by omega
  subst hie
  rw [List.take_length] at hml ⊢
  (refine S ?_;try exact True.intro)
  (repeat' (first|refine jaa fun K hK=>?_|refine wkA ?_|(refine hK _ _ ?_;clear hK K)|(refine jad (fun hc=>?_) (fun hc=>?_)<;>first | contradiction | (exfalso;omega) | skip)|(refine hKo _ _ ?_)|refine wkB ?_|exact True.intro|(clear hK K)))
  have hKo:=hK;clear hK
  refine jag (S:=Nat) [(3,1),(10,1),(51,10)] (fun j=>j≤v.out_.length) (fun j=>[(51,rI j),(3,.rs 1 (v.calls.length+j) 1 (v.calls.length+j))]) (fun j=>⟨[],[(0,.var 52 (ja4 v)),(1,.vec 9 1 ((v.calls.map jei++(v.out_.take j).map jv2).map eS))]⟩) (fun j=>v.out_.length - j) 0 (by omega) (jau (by simp) lle) ?_
  rintro j hj Ks hKs
  have hmj:(v.calls.map jei++(v.out_.take j).map jv2).length=v.calls.length+j:=by simp;omega
  by_cases hjl:j < v.out_.length
  ·have ho:=h.out _ (jam hjl)
   generalize hod:nth v.out_ j=o at *
   (refine S ?_;try exact True.intro)
   (have W:=And.intro hmj (hod);repeat' (first|refine jaa fun K hK=>?_|refine wkA ?_|(refine hK _ _ ?_;clear hK K)|(refine jad (fun hc=>?_) (fun hc=>?_)<;>first | contradiction | (exfalso;omega) | skip)|refine wkB ?_|exact True.intro|(clear hK K)));all_goals (try clear W)
   refine hKs _ _ (jar (j+1) (by omega) (by show v.out_.length - (j+1) < v.out_.length - j;omega) ?_ lle)
   show Hp.mk _ [_,(1,_)]=Hp.mk _ [_,(1,.vec _ _ ((v.calls.map jei++(v.out_.take (j+1)).map jv2).map eS))]
   rw [ja8 hjl,hod]
   simp only [List.map_append,List.append_assoc];rfl
  ·have hje:j=v.out_.length:=by omega
   subst hje
   rw [List.take_length] at hmj ⊢
   have hs4:v.status=0∨v.status=1∨v.status=2∨v.status=3:=by omega
   rcases hs4 with hs | hs | hs | hs
   ·have hstand:jfo v=((⟨#[105,110,32]⟩:ByteArray)++jbJ v.in_++(⟨#[32]⟩:ByteArray))++((⟨#[114,117,110,115]⟩:ByteArray)):=by
     unfold jfo
     rw [hs]
     apply jiV
     simp
    (refine S ?_;try exact True.intro)
    (have W:=And.intro hmj (hs);repeat' (first|refine jaa fun K hK=>?_|refine wkA ?_|(with_reducible refine gR 19 ?_);refine dC 19 ([],[70,76],[]) [] [0,1,2,3,4,5,6,7,8,9,10,11,12,13] mixed ?_|(refine hK _ _ ?_;clear hK K)|(refine jad (fun hc=>?_) (fun hc=>?_)<;>first | contradiction | (exfalso;omega) | skip)|refine mkM 7 ?_|refine jlz [] jcs ?_|refine jlz [0] jcs ?_|refine jlz [0,1] jcs ?_|refine jlz [0,1,2] jcs ?_|(refine qgI [0,1,2,3] (.string ⟨#[]⟩) (rS ((⟨#[114,117,110,115]⟩:ByteArray))) jcs (by kernel_rfl) ?_)|refine cq (hin) ?_|refine cp (htr) ?_|(refine hKo _ _ ?_)|refine wkB ?_|exact True.intro|(clear hK K)));all_goals (try clear W)
    refine jfG [.tmp 2] ?_
    refine VTo.row (e:=9) (jbU v) rfl ?_ (by simp [jbU];omega)
    unfold jbU
    rw [hstand]
    simp only [List.map_append];rfl
   ·have hstand:jfo v=((⟨#[105,110,32]⟩:ByteArray)++jbJ v.in_++(⟨#[32]⟩:ByteArray))++((⟨#[119,97,105,116,115]⟩:ByteArray)):=by
     unfold jfo
     rw [hs]
     apply jiV
     simp
    (refine S ?_;try exact True.intro)
    (have W:=And.intro hmj (hs);repeat' (first|refine jaa fun K hK=>?_|refine wkA ?_|(with_reducible refine gR 19 ?_);refine dC 19 ([],[70,76],[]) [] [0,1,2,3,4,5,6,7,8,9,10,11,12,13] mixed ?_|(refine hK _ _ ?_;clear hK K)|(refine jad (fun hc=>?_) (fun hc=>?_)<;>first | contradiction | (exfalso;omega) | skip)|refine mkM 7 ?_|refine jlz [] jcs ?_|refine jlz [0] jcs ?_|refine jlz [0,1] jcs ?_|refine jlz [0,1,2] jcs ?_|(refine qgI [0,1,2,3] (.string ⟨#[]⟩) (rS ((⟨#[119,97,105,116,115]⟩:ByteArray))) jcs (by kernel_rfl) ?_)|refine cq (hin) ?_|refine cp (htr) ?_|(refine hKo _ _ ?_)|refine wkB ?_|exact True.intro|(clear hK K)));all_goals (try clear W)
    refine jfG [.tmp 2] ?_
    refine VTo.row (e:=9) (jbU v) rfl ?_ (by simp [jbU];omega)
    unfold jbU
    rw [hstand]
    simp only [List.map_append];rfl
   ·have hstand:jfo v=((⟨#[105,110,32]⟩:ByteArray)++jbJ v.in_++(⟨#[32]⟩:ByteArray))++((⟨#[101,110,100,115]⟩:ByteArray)):=by
     unfold jfo
     rw [hs]
     apply jiV
     simp
    (refine S ?_;try exact True.intro)
    (have W:=And.intro hmj (hs);repeat' (first|refine jaa fun K hK=>?_|refine wkA ?_|(with_reducible refine gR 19 ?_);refine dC 19 ([],[70,76],[]) [] [0,1,2,3,4,5,6,7,8,9,10,11,12,13] mixed ?_|(refine hK _ _ ?_;clear hK K)|(refine jad (fun hc=>?_) (fun hc=>?_)<;>first | contradiction | (exfalso;omega) | skip)|refine mkM 7 ?_|refine jlz [] jcs ?_|refine jlz [0] jcs ?_|refine jlz [0,1] jcs ?_|refine jlz [0,1,2] jcs ?_|(refine qgI [0,1,2,3] (.string ⟨#[]⟩) (rS ((⟨#[101,110,100,115]⟩:ByteArray))) jcs (by kernel_rfl) ?_)|refine cq (hin) ?_|refine cp (htr) ?_|(refine hKo _ _ ?_)|refine wkB ?_|exact True.intro|(clear hK K)));all_goals (try clear W)
    refine jfG [.tmp 2] ?_
    refine VTo.row (e:=9) (jbU v) rfl ?_ (by simp [jbU];omega)
    unfold jbU
    rw [hstand]
    simp only [List.map_append];rfl
   ·have hstand:jfo v=((⟨#[105,110,32]⟩:ByteArray)++jbJ v.in_++(⟨#[32]⟩:ByteArray))++((⟨#[102,97,108,108,115,32]⟩:ByteArray)++jbJ v.trap):=by
     unfold jfo
     rw [hs]
     apply jiV
     simp
    (refine S ?_;try exact True.intro)
    (have W:=And.intro hmj (hs);repeat' (first|refine jaa fun K hK=>?_|refine wkA ?_|(with_reducible refine gR 19 ?_);refine dC 19 ([],[70,76],[]) [] [0,1,2,3,4,5,6,7,8,9,10,11,12,13] mixed ?_|(refine hK _ _ ?_;clear hK K)|(refine jad (fun hc=>?_) (fun hc=>?_)<;>first | contradiction | (exfalso;omega) | skip)|refine mkM 7 ?_|refine jlz [] jcs ?_|refine jlz [0] jcs ?_|refine jlz [0,1] jcs ?_|refine jlz [0,1,2] jcs ?_|(refine qgI [0,1,2,3] (.string ⟨#[]⟩) (rS ((⟨#[102,97,108,108,115,32]⟩:ByteArray)++jbJ v.trap)) jcs (by kernel_rfl) ?_)|refine cq (hin) ?_|refine cp (htr) ?_|(refine hKo _ _ ?_)|refine wkB ?_|exact True.intro|(clear hK K)));all_goals (try clear W)
    refine jfG [.tmp 2] ?_
    refine VTo.row (e:=9) (jbU v) rfl ?_ (by simp [jbU];omega)
    unfold jbU
    rw [hstand]
    simp only [List.map_append];rfl
end Go.Proofs.YtdekkklnfifphaaGreatDoor
