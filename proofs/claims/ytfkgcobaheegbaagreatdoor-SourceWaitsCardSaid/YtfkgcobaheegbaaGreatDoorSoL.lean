/- Calls whose things are read from then on. What a program means: a step, from states that are read to states that are read. What a program means: the beginning, and a run. What a program means: a run. No conditions. -/
import Derived.Test.YtfkgcobaheegbaaGreatDoorGdR
import Derived.Test.YtfkgcobaheegbaaGreatDoorSoC
import Derived.Test.YtfkgcobaheegbaaGreatDoorSoH
set_option linter.all false
namespace Go.Gd
open Go
theorem jiE:∀ (l:List (Nat×Row)),jek (fun _=>true) l
 | []=>trivial
 | _::l=>⟨.inl rfl,jiE l⟩
theorem jgv:∀ (l:List (Nat×Row)),ja9 (fun _=>true) l=[]
 | []=>rfl
 | x::l=>jgv l
theorem PCall.ofA {P:Program} {f:FuncId} {args:List AV} {r0 r1:AV} {l0:List (Nat×Row)} (hc:ACalls P f args [] fun r l=>r=r0∧l=l0) (hv:VTo (fun _=>true) ⟨[],l0⟩ r0 r1):PCall P f args r1:=fun w vs h1 h2=>by
 refine (hc w vs h1 h2).mono ?_
 rintro e W ⟨v,r,⟨B,l⟩,w',rfl,e1,⟨rfl,rfl⟩,g1,g2,g3⟩
 have hB:B=[]:=g3.base
 subst hB
 obtain ⟨w2,k1,k2,k3,k4⟩:=RLe.free (fun _=>true) rfl (jiE _) hv w' v g1 g2
 refine ⟨v,r1,_,w2,k1.symm,e1,⟨rfl,jgv _⟩,k2,k3,g3.trans k4⟩
theorem RS.rows_nodup (R:RS):(ids R.rows).Nodup:=by
 have:=RS.nodup (t:=0) (pre:=[]) (post:=[]) (R:=R)
 exact (List.nodup_cons.1 this).2
theorem RS.e_perm {t:TypeId} {pre post:List AV} {R:RS} {tl:List (Nat×Row)} {c:List AV} (hc:c=pre++R.c++post) (h0:jas tl 0=none) (i:Nat):jas (R.rowsT (tl++[(0,.var t c)])) i=jas (R.e t pre post tl) i:=by
 subst hc
 rw [RS.e_rows,RS.rowsT_app,← List.append_assoc,← RS.rowsT_app]
 exact jnG (by rw [RS.rowsT_get _ _ _ (.inl rfl) (by omega),h0]) i
theorem cR {P:Program} {f:FuncId} {args:List AV} {H:Hp} {K:AV→Hp→Prop} {R:RS} {r0:AV} {tl:List (Nat×Row)} (hc:ACalls P f args [] fun r l=>r=r0∧l=R.rows) (hH:H=⟨[],tl⟩) (hl:low tl) (h2:jaB noQ args=true) (h0:jab P f=true) (k:K r0 ⟨[],R.rowsT tl⟩):jbm P (.raw (.func (.func f) #[] #[])) args H K:=by
 subst hH
 refine jbQ h0 fun w vs h1 h3=>?_
 have hno:∀ i r,jas R.rows i=some r→jas tl i=none:=fun i r hi=>by
  cases e:jas tl i with
  | none=>rfl
  | some x=>
   have:=hl i x e
   rw [RS.rows_no i (.inr this.1) this.2] at hi;cases hi
 refine (jfd (H:=⟨[],tl⟩) (K:=fun r H'=>r=r0∧∃ l',H'=⟨[],l'⟩∧∀ i,jas l' i=jas (R.rowsT tl) i) hc (fun i r hi=>by cases hi) (by simpa [ids] using h2) (fun i r hi=>by cases hi) (fun r l' ⟨e1,e2⟩=>⟨fun i s hs=>?_,by rw [e2];exact R.rows_nodup,e1,_,rfl,fun i=>?_⟩) h1 h3).mono ?_
 ·subst e2
  exact .inr (hno i s hs)
 ·subst e2
  rw [jdS _ _ _ (fun _ _ _=>trivial) R.rows_nodup,RS.rowsT_app,jbB]
 ·rintro e W ⟨v,r,H',w',rfl,rfl,⟨rfl,l',rfl,hl'⟩,g1,g2,g3⟩
  exact ⟨v,_,⟨[],R.rowsT tl⟩,w',rfl,rfl,k,jis hl' g1,g2,{ g3 with base:=rfl }⟩
theorem jmt {P:Program} {f:FuncId} {args:List AV} {B:List Nat} {l l':List (Nat×Row)} {K:AV→Hp→Prop} (h:∀ i,jas l i=jas l' i) (k:HCalls P f args ⟨B,l'⟩ K):HCalls P f args ⟨B,l⟩ K:=fun w vs h1 h2=>by
 refine (k w vs (jis h h1) h2).mono ?_
 rintro e W ⟨v,r,H',w',e0,e1,k,g1,g2,g3⟩
 exact ⟨v,r,H',w',e0,e1,k,g1,g2,{ g3.toExtQ with base:=g3.base }⟩
theorem RS.e_perm2 {t:TypeId} {pre post:List AV} {R:RS} {tl tl':List (Nat×Row)} {c:List AV} (h0:jas tl 0=some (.var t c)) (hc:c=pre++R.c++post) (h:∀ i,i≠0→jas tl i=jas tl' i) (i:Nat):jas (R.rowsT tl) i=jas (R.e t pre post tl') i:=by
 subst hc
 by_cases e:i=0
 ·subst e
  rw [RS.rowsT_get _ _ _ (.inl rfl) (by omega),h0,RS.get0]
 ·rw [RS.e_rows]
  show _=if i=0 then _ else _
  rw [if_neg e,RS.rowsT_app,RS.rowsT_app,jbB,jbB,h i e]
theorem cEp {P:Program} {f:FuncId} {args:List AV} {H:Hp} {K:AV→Hp→Prop} {t:TypeId} {pre post pre' post':List AV} {R R':RS} {r0:AV} {B:List Nat} {l tl:List (Nat×Row)} (hc:ACalls P f args (R.e t pre post []) fun r l'=>r=r0∧l'=R'.e t pre' post' []) (hH:H=⟨B,l⟩) (hperm:∀ i,jas l i=jas (R.e t pre post tl) i)
  (h1:R.frs.length≤R'.frs.length) (h2:R.heap.length≤R'.heap.length) (hp:jaB noQ pre=true) (hq:jaB noQ post=true) (hl:low tl) (ha:jaB (fun i=>decide (i=0)) args=true) (h0:jab P f=true) (k:K r0 ⟨B,R'.e t pre' post' tl⟩):jbm P (.raw (.func (.func f) #[] #[])) args H K:=by
 subst hH
 refine jbQ h0 (jmt hperm (jeL (E:=fun tl=>R.e t pre post tl) (E':=fun tl=>R'.e t pre' post' tl) hc (RS.lays hl) (RS.lays hl) RS.nodup (jbg (fun i hi=>?_) _ ha) (RS.closed hp hq) k (RS.size h1 h2)))
 have:i=0:=of_decide_eq_true hi
 subst this
 exact jdu RS.get0
theorem RS.vtoR {R:RS} (h:R.Ok):VTo (fun _=>true) ⟨[],R.rows⟩ (.agg R.c) (.agg (jai R.st)):=by
 have hnf:=h.nf
 have g:∀ {i:Nat} {r:Row},jas (R.e 0 [] [] []) i=some r→i≠0→(Hp.mk [] R.rows).get i=some r:=fun {i r} e h=>by
  have e:(if i=0 then _ else jas R.rows i)=some r:=e
  rw [if_neg h] at e;exact e
 have gf:∀ {a k:Nat} {r:Row},jas (R.e 0 [] [] []) (fid a k)=some r→(Hp.mk [] R.rows).get (fid a k)=some r:=fun {a k r} e=>g e (by have:=jbU a k;omega)
 refine VToL.agg (ds:=jai R.st) ⟨?_,?_,.same _ rfl,?_,.same _ rfl,.same _ rfl,.same _ rfl,True.intro⟩
 ·refine .rsc _ 1 3 _ _ 57 _ _ rfl (g RS.get1 (by decide)) (by simp [go_sem]) hnf (by show (List.map _ (R.frs.take R.nf)).length=_;simp;omega) (fun ds hds=>?_) (jb7 (enc:=jaJ) (sz:=3) _) fun k j c d hk h1 h2=>?_
  ·obtain ⟨x,_,rfl⟩:=List.mem_map.1 hds;rfl
  ·rw [jgb _ _ _ (by omega)] at h1
   have hk':k < (R.frs.take R.nf).length:=by simp;omega
   have e2:(List.map jaJ (R.frs.take R.nf)).getD k []=jaJ (nth R.frs k):=by
    rw [jdO _ _ _ hk',jbl hk',jbl (by omega)];simp
   have h2:((List.map jaJ (R.frs.take R.nf)).getD k [])[j]?=some d:=h2
   rw [e2] at h2
   unfold RS.fr at h1
   match j with
   | 0=>cases h1;cases h2;exact .same _ rfl
   | 1=>cases h1;cases h2;exact .row _ rfl (gf (RS.getS (by omega))) rfl
   | 2=>cases h1;cases h2;exact .rowCut _ _ rfl (gf (RS.getP (by omega))) rfl rfl
   | j+3=>simp at h1
 ·refine .rs _ 2 1 _ 22 _ _ rfl (g RS.get2 (by decide)) (by simp [go_sem]) (by simp [go_sem];rfl) (fun ds hds=>?_) (jb7 (enc:=eLI) (sz:=1) _) fun k j c d hk h1 h2=>?_
  ·obtain ⟨x,_,rfl⟩:=List.mem_map.1 hds;rfl
  ·have hk:k < R.heap.length:=by simpa [go_sem] using hk
   rw [jgb _ _ _ hk] at h1
   have h2:((List.map eLI R.heap).getD k [])[j]?=some d:=h2
   rw [jdO _ _ _ hk] at h2
   match j with
   | 0=>cases h1;cases h2;exact .row _ rfl (gf (RS.getH hk)) rfl
   | j+1=>simp at h1
 ·exact .row _ rfl (g RS.get3 (by decide)) rfl
theorem jhb {P:Program} {fn:Func} {F:List AV} {l:List (Nat×Row)} {H:Hp} {out:List AV} {e:Exit} {r:AV} (rs:List ResultVar) (hH:H=⟨[],l⟩) (hv:VTo (fun _=>true) H (jbo out) r) (hrs:fn.results.toList=rs:=by rfl) (he:e=.normal∨e=.ret:=by first | exact Or.inr rfl | exact Or.inl rfl | fail)
  (ho:jgg P H F rs=some out:=by first | rfl | (simp (disch:=first | omega | fail) only [go_sem,↓reduceIte,Nat.reduceEqDiff,Nat.reduceLeDiff,Nat.reduceSub,Nat.reduceAdd];rfl)) (hok:jbT P H F rs:=by first | exact True.intro | (simp (disch:=first | omega | fail) only [go_sem,↓reduceIte,Nat.reduceEqDiff,Nat.reduceLeDiff,Nat.reduceSub,Nat.reduceAdd])):jhu P fn (fun r' l'=>r'=r∧l'=[]) e F H:=by
 subst hrs hH
 refine jjz he ho hok r ⟨[],[]⟩ ?_ ⟨rfl,rfl⟩
 have:=RLe.free (H:=⟨[],l⟩) (fun _=>true) rfl (jiE _) hv
 rw [jgv] at this
 exact this
end Go.Gd
namespace Go.Proofs.YtfkgcobaheegbaaGreatDoor
open Go Go.Gd
set_option maxHeartbeats 4000000
set_option maxRecDepth 10000
theorem StInv.copy {p:GProg} (hs:SOk p) {s:GState} (h:StInv p s):ACalls Tryz.prog 29 [.agg (jai s)] [] (fun r l=>r=.agg (RS.of s).c∧l=(RS.of s).rows):=by
 have h1:s.frames.length≤8:=h.inv.frs
 have h2:=jaO s.heap
 have h3:=h.cells
 refine juq s (by omega) (by omega) (by have:=h.outs;omega) (fun k hk=>?_) fun k hk=>?_
 ·have hf:FrOk p (nth s.frames k):=h.inv.fr k hk
  have:=hf.len hs
  exact ⟨by have:=(hs.fns (nth s.frames k).fn.toNat (by have:=hf.f0;have:=hf.f1;omega)).hi;have:=hf.sl;omega,by omega⟩
 ·have:=jdM s.heap k hk;omega
theorem jjU {p:GProg} (hs:SOk p) {s:GState} (h:StInv p s):PCall Tryz.prog 29 [.agg (jai s)] (.agg (jai s)):=by
 have:=PCall.ofA (StInv.copy hs h) (RS.vtoR h.inv.ok)
 rw [RS.of_st] at this
 exact this
theorem jo8 {p:GProg} (hs:SOk p) {s:GState} (h:StInv p s) (inp:List Int) (hn:inp.length≤1000) (h0:jav p s < 0):PCall Tryz.prog 27 [.agg (jam p),.agg (jai s),jal eI 1 inp] (.agg (jai s)):=by
 have hnx:=jki hs h
 have hcp:=jjU hs h
 generalize jav p s=a at *
 refine jbA Tryz.func27 Tryz.ntmps27 ?_
 (repeat' (first|refine jaa fun K hK=>?_|refine wkA ?_|(refine hK _ _ ?_;clear hK K)|(refine jad (fun hc=>?_) (fun hc=>?_)<;>first | contradiction | (exfalso;omega) | skip)|refine cp (hnx) ?_|refine cp (hcp) ?_|refine wkB ?_|exact True.intro|(clear hK K)))
 all_goals (refine jaN [.cell 6 39] ?_;try simp only [go_sem])
theorem jo9 {p:GProg} (hs:SOk p) {s:GState} (h:StInv p s) (inp:List Int) (hn:inp.length≤1000) (h0:¬ jav p s < 0) (hw:jbR p s (jav p s) inp):PCall Tryz.prog 27 [.agg (jam p),.agg (jai s),jal eI 1 inp] (.agg (jai { s with status:=1 })):=by
 have hnx:=jki hs h
 have hcp:=jjU hs h
 have h2:¬ (s.status=2∨s.status=3):=fun hh=>h0 (by unfold jav;rw [if_pos hh];decide)
 have hd:=h.doing (fun hh=>h2 (.inl hh)) 0 (by decide)
 have hat:atV p (RS.of { s with status:=0 }).st=jav p s:=by rw [RS.of_st];unfold jav;rw [if_neg h2];rfl
 obtain ⟨s0,s1,s2,s3,s4,s5⟩:=hd.stmt hs
 rw [hat] at s0 s1
 obtain ⟨hls,hk19,hin⟩:=hw
 have hin0:=h.in0
 generalize jav p s=a at *
 obtain ⟨x,hla,hxr⟩:=(hs.ok.tree.shape a.toNat s1).1.right hls
 have hkx:=(hs.ok.tree.shape a.toNat s1).2.1 x (by rw [hla];simp)
 have hx0:nth (nth p.tree.nodes a.toNat).l 0=x:=by rw [hla];rfl
 have hll:(nth p.tree.nodes a.toNat).l.length=1:=by rw [hla];rfl
 have hxn:x.toNat < p.tree.nodes.length:=by omega
 have k19':(nth p.tree.nodes x.toNat).kind=19:=by rw [← hx0];exact hk19
 have hls':(nth p.tree.nodes a.toNat).kind=10∨(nth p.tree.nodes a.toNat).kind=11:=hls
 rcases hls' with hk | hk<;>
 ·refine jbA Tryz.func27 Tryz.ntmps27 ?_
  (have W:=And.intro hx0 (And.intro hll (And.intro k19' (hk)));repeat' (first|refine jaa fun K hK=>?_|refine wkA ?_|(with_reducible refine gR 7 ?_);refine dE 7 [0,1,2,3,4,5,6,7,8,9,10,11,12,13,14,15,16,17,18,19,20] mixed ?_|(refine hK _ _ ?_;clear hK K)|(refine jad (fun hc=>?_) (fun hc=>?_)<;>first | contradiction | (exfalso;omega) | skip)|refine cp (hnx) ?_|refine cp (hcp) ?_|refine wkB ?_|exact True.intro|(clear hK K)));all_goals (try clear W)
  all_goals (refine jaN [.cell 6 39] ?_;try simp only [go_sem])
theorem jo7 {p:GProg} (hs:SOk p) {s:GState} (h:StInv p s) (inp:List Int) (hn:inp.length≤1000) (ht:0≤s.time∧s.time≤1000000) (h0:¬ jav p s < 0) (hw:¬ jbR p s (jav p s) inp)
  (hrg:∀ x:Int,0≤x→x.toNat < p.tree.nodes.length→isE (jan p.tree.nodes x)→rng ((RS.of { s with status:=0 }).val p x).1.n):PCall Tryz.prog 27 [.agg (jam p),.agg (jai s),jal eI 1 inp] (.agg (jai (jbc p s inp))):=by
 have hnx:=jki hs h
 have hcp:=jjU hs h
 have hcr:=StInv.copy hs h
 have h2:¬ (s.status=2∨s.status=3):=fun hh=>h0 (by unfold jav;rw [if_pos hh];decide)
 have hd:=h.doing (fun hh=>h2 (.inl hh)) 0 (by decide)
 have hst:(RS.of { s with status:=0 }).st={ s with status:=0 }:=RS.of_st _
 have hat:atV p (RS.of { s with status:=0 }).st=jav p s:=by rw [RS.of_st];unfold jav;rw [if_neg h2];rfl
 obtain ⟨s0,s1,s2,s3,s4,s5⟩:=hd.stmt hs
 have hdo:=jut hs _ hd inp hn (by rw [hat,hst];exact hw) hrg
 have hda:=hd.does hs hn (by rw [hat,hst];exact hw)
 rw [hat] at s0 s1 hdo hda
 have hnw:¬ (((nth p.tree.nodes (jav p s).toNat).kind=10∨(nth p.tree.nodes (jav p s).toNat).kind=11)∧(nth p.tree.nodes (nth (nth p.tree.nodes (jav p s).toNat).l 0).toNat).kind=19∧(inp.length:Int)≤s.in_):=hw
 have hsh:((nth p.tree.nodes (jav p s).toNat).kind=10∨(nth p.tree.nodes (jav p s).toNat).kind=11)→(nth p.tree.nodes (jav p s).toNat).l.length=1∧0≤nth (nth p.tree.nodes (jav p s).toNat).l 0∧(nth (nth p.tree.nodes (jav p s).toNat).l 0).toNat < p.tree.nodes.length:=fun hk=>by
  obtain ⟨x,hla,hxr⟩:=(hs.ok.tree.shape (jav p s).toNat s1).1.right hk
  have:=(hs.ok.tree.shape (jav p s).toNat s1).2.1 x (by rw [hla];simp)
  rw [hla]
  exact ⟨rfl,this.1,by show x.toNat < _;omega⟩
 have hin0:=h.in0
 unfold jbc
 rw [if_neg h0,if_neg hw]
 simp only
 have hgr:=jfJ (RS.of { s with status:=0 }) p (jav p s) inp
 generalize (RS.of { s with status:=0 }).does p (jav p s) inp=D at *
 generalize jav p s=a at *
 have hpm:∀ i,jas ((RS.of s).rowsT [(4,.var 29 (jam p)),(5,.var 39 (jai s)),(6,.var 39 [.raw (.slice none 0 0),.raw (.slice none 0 0),rI 0,.raw (.slice none 0 0),rI 0,rI 0,rI 0]),(0,.var 39 (RS.of { s with status:=0 }).c),(7,.var 53 (jao (nth p.tree.nodes a.toNat)))]) i=jas ((RS.of { s with status:=0 }).e 39 [] [] [(4,.var 29 (jam p)),(5,.var 39 (jai s)),(6,.var 39 [.raw (.slice none 0 0),.raw (.slice none 0 0),rI 0,.raw (.slice none 0 0),rI 0,rI 0,rI 0]),(7,.var 53 (jao (nth p.tree.nodes a.toNat)))]) i:=RS.e_perm2 (R:=RS.of { s with status:=0 }) rfl (by simp) fun i hi=>by
  simp only [jas,if_neg hi]
 by_cases hz:D.2=0
 ·rw [if_neg (fun e=>e hz)]
  have hD:=hda hz
  have hset:=jlI hs { D.1 with time:=s.time+1 } ⟨⟨hD.inv.ok.nf,hD.inv.ok.jp⟩,hD.inv.frs,hD.inv.fr,hD.inv.busy,hD.inv.go⟩
  have hgs:=jcE p (RS.left { D.1 with time:=s.time+1 }+1) { D.1 with time:=s.time+1 }
  change Grew _ (({ D.1 with time:=s.time+1 }:RS).settle p) at hgs
  have hTok:(({ D.1 with time:=s.time+1 }:RS).settle p).Ok:=(jcx (RS.left { D.1 with time:=s.time+1 }+1) { D.1 with time:=s.time+1 } ⟨⟨hD.inv.ok.nf,hD.inv.ok.jp⟩,hD.inv.frs,hD.inv.fr,hD.inv.busy,hD.inv.go⟩ (by omega)).1.ok
  generalize hT:({ D.1 with time:=s.time+1 }:RS).settle p=T at *
  rcases Classical.em ((nth p.tree.nodes a.toNat).kind=10∨(nth p.tree.nodes a.toNat).kind=11) with hk | hk
  ·obtain ⟨g1,g2,g3⟩:=hsh hk
   refine jbA Tryz.func27 Tryz.ntmps27 ?_
   (have W:=And.intro hz (g1);repeat' (first|refine jaa fun K hK=>?_|refine wkA ?_|(with_reducible refine gR 7 ?_);refine dE 7 [0,1,2,3,4,5,6,7,8,9,10,11,12,13,14,15,16,17,18,19,20] mixed ?_|(refine hK _ _ ?_;clear hK K)|(refine jad (fun hc=>?_) (fun hc=>?_)<;>first | contradiction | (exfalso;omega) | skip)|refine cp (hnx) ?_|(refine cR (R:=RS.of s) hcr rfl jac rfl (by simp only [go_sem]) ?_;(refine S ?_;try exact True.intro))|(refine cEp (R:=RS.of { s with status:=0 }) (R':=D.1) (pre:=[]) (post:=[]) (pre':=[]) (post':=[]) (tl:=[(4,.var 29 (jam p)),(5,.var 39 (jai s)),(6,.var 39 [.raw (.slice none 0 0),.raw (.slice none 0 0),rI 0,.raw (.slice none 0 0),rI 0,rI 0,rI 0]),(7,.var 53 (jao (nth p.tree.nodes a.toNat)))]) hdo rfl hpm hgr.frs hgr.heap rfl rfl jac rfl (by simp only [go_sem]) ?_;(refine S ?_;try exact True.intro))|(refine cE (R:={ D.1 with time:=s.time+1 }) (R':=T) (pre:=[]) (post:=[]) (pre':=[]) (post':=[]) hset rfl hgs.frs hgs.heap rfl rfl jac rfl (by simp only [go_sem]) ?_;(refine S ?_;try exact True.intro))|refine bxF 4 ?_|refine bxF 5 ?_|refine alF 6 ?_|refine alF 0 ?_|refine alF 7 ?_|refine wkB ?_|exact True.intro|(clear hK K)));all_goals (try clear W)
   exact jhb [.cell 6 39] rfl (VToL.agg (ds:=jai T.st) (RS.vto (t:=39) (pre:=[]) (post:=[]) (R:=T) hTok fun _=>rfl))
  ·refine jbA Tryz.func27 Tryz.ntmps27 ?_
   (have W:=hz;repeat' (first|refine jaa fun K hK=>?_|refine wkA ?_|(with_reducible refine gR 7 ?_);refine dE 7 [0,1,2,3,4,5,6,7,8,9,10,11,12,13,14,15,16,17,18,19,20] mixed ?_|(refine hK _ _ ?_;clear hK K)|(refine jad (fun hc=>?_) (fun hc=>?_)<;>first | contradiction | (exfalso;omega) | skip)|refine cp (hnx) ?_|(refine cR (R:=RS.of s) hcr rfl jac rfl (by simp only [go_sem]) ?_;(refine S ?_;try exact True.intro))|(refine cEp (R:=RS.of { s with status:=0 }) (R':=D.1) (pre:=[]) (post:=[]) (pre':=[]) (post':=[]) (tl:=[(4,.var 29 (jam p)),(5,.var 39 (jai s)),(6,.var 39 [.raw (.slice none 0 0),.raw (.slice none 0 0),rI 0,.raw (.slice none 0 0),rI 0,rI 0,rI 0]),(7,.var 53 (jao (nth p.tree.nodes a.toNat)))]) hdo rfl hpm hgr.frs hgr.heap rfl rfl jac rfl (by simp only [go_sem]) ?_;(refine S ?_;try exact True.intro))|(refine cE (R:={ D.1 with time:=s.time+1 }) (R':=T) (pre:=[]) (post:=[]) (pre':=[]) (post':=[]) hset rfl hgs.frs hgs.heap rfl rfl jac rfl (by simp only [go_sem]) ?_;(refine S ?_;try exact True.intro))|refine bxF 4 ?_|refine bxF 5 ?_|refine alF 6 ?_|refine alF 0 ?_|refine alF 7 ?_|refine wkB ?_|exact True.intro|(clear hK K)));all_goals (try clear W)
   exact jhb [.cell 6 39] rfl (VToL.agg (ds:=jai T.st) (RS.vto (t:=39) (pre:=[]) (post:=[]) (R:=T) hTok fun _=>rfl))
 ·rw [if_pos hz]
  rcases Classical.em ((nth p.tree.nodes a.toNat).kind=10∨(nth p.tree.nodes a.toNat).kind=11) with hk | hk
  ·obtain ⟨g1,g2,g3⟩:=hsh hk
   refine jbA Tryz.func27 Tryz.ntmps27 ?_
   (have W:=And.intro hz (g1);repeat' (first|refine jaa fun K hK=>?_|refine wkA ?_|(with_reducible refine gR 7 ?_);refine dE 7 [0,1,2,3,4,5,6,7,8,9,10,11,12,13,14,15,16,17,18,19,20] mixed ?_|(refine hK _ _ ?_;clear hK K)|(refine jad (fun hc=>?_) (fun hc=>?_)<;>first | contradiction | (exfalso;omega) | skip)|refine cp (hnx) ?_|(refine cR (R:=RS.of s) hcr rfl jac rfl (by simp only [go_sem]) ?_;(refine S ?_;try exact True.intro))|(refine cEp (R:=RS.of { s with status:=0 }) (R':=D.1) (pre:=[]) (post:=[]) (pre':=[]) (post':=[]) (tl:=[(4,.var 29 (jam p)),(5,.var 39 (jai s)),(6,.var 39 [.raw (.slice none 0 0),.raw (.slice none 0 0),rI 0,.raw (.slice none 0 0),rI 0,rI 0,rI 0]),(7,.var 53 (jao (nth p.tree.nodes a.toNat)))]) hdo rfl hpm hgr.frs hgr.heap rfl rfl jac rfl (by simp only [go_sem]) ?_;(refine S ?_;try exact True.intro))|refine cp (hcp) ?_|refine bxF 4 ?_|refine bxF 5 ?_|refine alF 6 ?_|refine alF 0 ?_|refine alF 7 ?_|refine wkB ?_|exact True.intro|(clear hK K)));all_goals (try clear W)
   exact jhb [.cell 6 39] rfl (.same (.agg (jai { s with status:=3,trap:=D.2,time:=s.time+1 })) (by simp only [AV.all];exact jcD _ _))
  ·refine jbA Tryz.func27 Tryz.ntmps27 ?_
   (have W:=hz;repeat' (first|refine jaa fun K hK=>?_|refine wkA ?_|(with_reducible refine gR 7 ?_);refine dE 7 [0,1,2,3,4,5,6,7,8,9,10,11,12,13,14,15,16,17,18,19,20] mixed ?_|(refine hK _ _ ?_;clear hK K)|(refine jad (fun hc=>?_) (fun hc=>?_)<;>first | contradiction | (exfalso;omega) | skip)|refine cp (hnx) ?_|(refine cR (R:=RS.of s) hcr rfl jac rfl (by simp only [go_sem]) ?_;(refine S ?_;try exact True.intro))|(refine cEp (R:=RS.of { s with status:=0 }) (R':=D.1) (pre:=[]) (post:=[]) (pre':=[]) (post':=[]) (tl:=[(4,.var 29 (jam p)),(5,.var 39 (jai s)),(6,.var 39 [.raw (.slice none 0 0),.raw (.slice none 0 0),rI 0,.raw (.slice none 0 0),rI 0,rI 0,rI 0]),(7,.var 53 (jao (nth p.tree.nodes a.toNat)))]) hdo rfl hpm hgr.frs hgr.heap rfl rfl jac rfl (by simp only [go_sem]) ?_;(refine S ?_;try exact True.intro))|refine cp (hcp) ?_|refine bxF 4 ?_|refine bxF 5 ?_|refine alF 6 ?_|refine alF 0 ?_|refine alF 7 ?_|refine wkB ?_|exact True.intro|(clear hK K)));all_goals (try clear W)
   exact jhb [.cell 6 39] rfl (.same (.agg (jai { s with status:=3,trap:=D.2,time:=s.time+1 })) (by simp only [AV.all];exact jcD _ _))
theorem jvD {p:GProg} (hs:SOk p) {s:GState} (h:StInv p s) (inp:List Int) (hn:inp.length≤1000) (ht:0≤s.time∧s.time≤1000000)
  (hrg:∀ x:Int,0≤x→x.toNat < p.tree.nodes.length→isE (jan p.tree.nodes x)→rng ((RS.of { s with status:=0 }).val p x).1.n):PCall Tryz.prog 27 [.agg (jam p),.agg (jai s),jal eI 1 inp] (.agg (jai (jbc p s inp))):=by
 by_cases h0:jav p s < 0
 ·have:=jo8 hs h inp hn h0
  unfold jbc;rw [if_pos h0];exact this
 by_cases hw:jbR p s (jav p s) inp
 ·have:=jo9 hs h inp hn h0 hw
  unfold jbc;rw [if_neg h0,if_pos hw];exact this
 exact jo7 hs h inp hn ht h0 hw hrg
end Go.Proofs.YtfkgcobaheegbaaGreatDoor
namespace Go.Gd
open Go
theorem joR {n:Nat} {S:Type} {W:List (Nat×Nat)} {ok:S→Prop} {J:S→List (Nat×AV)} {G:S→Hp} {μ:S→Nat} {F₀ F:List AV} {B:List Nat} {l:List (Nat×Row)} (l':List (Nat×Row)) (s:S) (h1:ok s) (h2:μ s < n) (hperm:∀ i,jas l i=jas l' i) (h4:⟨B,l'⟩=G s) (h3:LLe F (jjB (J s) (jmC W F₀))):Next n W ok J G μ F₀ F ⟨B,l⟩:=
 ⟨s,h2,(FLe.perm l' hperm).trans (by rw [← h4];exact FLe.pt _ h3),h1⟩
end Go.Gd
namespace Go.Proofs.YtfkgcobaheegbaaGreatDoor
open Go Go.Gd
set_option maxHeartbeats 4000000
set_option maxRecDepth 10000
theorem js3 {p:GProg} (hs:SOk p):PCall Tryz.prog 20 [.agg (jam p)] (.agg (jai (jiD p))):=by
 obtain ⟨m,hm,hidx,hnm,hpar⟩:=jmB hs
 have hfc:=jfe (args:=[.agg (jam p),rI m,.raw (.slice none 0 0)]) (args':=[.agg (jam p),rI m,jal jag 3 []]) ⟨VLe.refl _,VLe.refl _,VLe.nil,trivial⟩ (jnt hs m hm [] (by rw [hpar];rfl) 0)
 have hset:=jlI hs (jdm p) (jcP hs).inv
 have hfns:=hs.ok.tree.fns
 have hTok:=(jcx ((jdm p).left+1) (jdm p) (jcP hs).inv (by omega)).1.ok
 have hgs:=jcE p ((jdm p).left+1) (jdm p)
 change ((jdm p).settle p).Ok at hTok
 change Grew _ ((jdm p).settle p) at hgs
 rw [jkD]
 have hR:RS.of { jhe with frames:=[jbi p m []] }=jdm p:=by unfold jdm;rw [hidx]
 generalize hB0:jdm p=R at *
 generalize hT:R.settle p=T at *
 refine jbA Tryz.func20 Tryz.ntmps20 ?_
 (repeat' (first|refine jaa fun K hK=>?_|refine wkA ?_|(refine hK _ _ ?_;clear hK K)|(refine jad (fun hc=>?_) (fun hc=>?_)<;>first | contradiction | (exfalso;omega) | skip)|refine bxF 4 ?_|refine alF 5 ?_|refine alF 0 ?_|refine wkB ?_|exact True.intro|(clear hK K)))
 refine jaU (FLe.nilC 2 0 1 22 1 rfl (by decide) rfl rfl) ?_
 refine jaU (FLe.nilC 3 0 3 9 1 rfl (by decide) rfl rfl) ?_
 (refine S ?_;try exact True.intro)
 have hKo:=hK;clear hK
 refine jah (S:=Nat) [(4,1),(6,21)] (fun k=>k≤p.tree.fns.length) (fun k=>[(4,rI k)]) (fun k=>if k≤m then ⟨[],[(4,.var 29 (jam p)),(5,.var 39 [.raw (.slice none 0 0),.raw (.slice none 0 0),rI 0,.raw (.slice none 0 0),rI 0,rI 0,rI 0]),(0,.var 39 [.raw (.slice none 0 0),.rs 2 0 1 0,rI 0,.rs 3 0 1 0,rI 0,rI 0,rI 0]),(2,.vec 22 1 []),(3,.vec 9 1 [])]⟩ else ⟨[],R.e 39 [] [] [(4,.var 29 (jam p)),(5,.var 39 [.raw (.slice none 0 0),.raw (.slice none 0 0),rI 0,.raw (.slice none 0 0),rI 0,rI 0,rI 0])]⟩)
  (fun k=>p.tree.fns.length - k) 0 (by omega) (jaE ?_ lle) ?_
 ·rw [if_pos (by omega)]
 rintro k hk Kr hKr
 by_cases h1:k < m
 ·have hne:=eq_false (hs.names.one k m h1 hm)
  rw [hnm] at hne
  rw [if_pos (by omega)]
  (refine S ?_;try exact True.intro)
  (have W:=hne;repeat' (first|refine jaa fun K hK=>?_|refine wkA ?_|(refine hK _ _ ?_;clear hK K)|(refine jad (fun hc=>?_) (fun hc=>?_)<;>first | contradiction | (exfalso;omega) | skip)|refine wkB ?_|exact True.intro|(clear hK K)));all_goals (try clear W)
  refine hKr _ _ (jau (k+1) (by omega) (by (try simp only);omega) ?_ lle)
  rw [if_pos (by omega)]
 by_cases h2:k=m
 ·subst h2
  rw [if_pos (by omega)]
  (refine S ?_;try exact True.intro)
  (have W:=hnm;repeat' (first|refine jaa fun K hK=>?_|refine wkA ?_|(refine hK _ _ ?_;clear hK K)|(refine jad (fun hc=>?_) (fun hc=>?_)<;>first | contradiction | (exfalso;omega) | skip)|refine cm (hfc) ?_|refine jnH 1 ?_|refine wkB ?_|exact True.intro|(clear hK K)));all_goals (try clear W)
  have hg0:=jbU 0 0
  have hg1:=jbU 1 0
  have hg2:fid 1 0≠fid 0 0:=by decide
  refine hKr _ _ (joR (R.e 39 [] [] [(4,.var 29 (jam p)),(5,.var 39 [.raw (.slice none 0 0),.raw (.slice none 0 0),rI 0,.raw (.slice none 0 0),rI 0,rI 0,rI 0])]) (k+1) (by omega) (by show p.tree.fns.length - (k+1) < p.tree.fns.length - k;omega) ?_ ?_ lle)
  ·subst hR
   intro i
   show jas [_,_,_,_,_,_,_,_] i=jas [_,_,_,_,(fid 0 0,_),(fid 1 0,_),_,_] i
   simp only [jas]
   repeat' split
   all_goals first
    | rfl
    | (exfalso;omega)
  ·show _=(if k+1≤k then _ else _)
   rw [if_neg (by omega)]
 ·rw [if_neg (by omega)]
  by_cases h3:k < p.tree.fns.length
  ·have hne:((nth p.tree.fns k).name=(⟨#[109,97,105,110]⟩:ByteArray))=False:=eq_false fun e=>hs.names.one m k (by omega) h3 (by rw [hnm,e])
   (refine S ?_;try exact True.intro)
   (have W:=hne;repeat' (first|refine jaa fun K hK=>?_|refine wkA ?_|(refine hK _ _ ?_;clear hK K)|(refine jad (fun hc=>?_) (fun hc=>?_)<;>first | contradiction | (exfalso;omega) | skip)|refine wkB ?_|exact True.intro|(clear hK K)));all_goals (try clear W)
   refine hKr _ _ (jau (k+1) (by omega) (by show p.tree.fns.length - (k+1) < p.tree.fns.length - k;omega) ?_ lle)
   show _=(if k+1≤m then _ else _)
   rw [if_neg (by omega)];rfl
  ·(refine S ?_;try exact True.intro)
   (repeat' (first|refine jaa fun K hK=>?_|refine wkA ?_|(refine hK _ _ ?_;clear hK K)|(refine jad (fun hc=>?_) (fun hc=>?_)<;>first | contradiction | (exfalso;omega) | skip)|(refine hKo _ _ ?_)|(refine cE (R:=R) (R':=T) (pre:=[]) (post:=[]) (pre':=[]) (post':=[]) hset rfl hgs.frs hgs.heap rfl rfl jac rfl (by simp only [go_sem]) ?_;(refine S ?_;try exact True.intro))|refine wkB ?_|exact True.intro|(clear hK K)))
   exact jhb [.cell 2 39] rfl (VToL.agg (ds:=jai T.st) (RS.vto (t:=39) (pre:=[]) (post:=[]) (R:=T) hTok fun _=>rfl))
theorem jvE {p:GProg} (hs:SOk p) {n:Nat} {s:GState} (h:jja p n s) (hn2:n≤1000000) (inp:List Int) (hn:inp.length≤1000):PCall Tryz.prog 27 [.agg (jam p),.agg (jai s),jal eI 1 inp] (.agg (jai (jbc p s inp))):=
 jvD hs h.inv inp hn ⟨h.t0,by have:=h.t1;omega⟩ fun x h0 hl hE=>RngR.val hs (R:=RS.of { s with status:=0 }) ⟨h.rng.sl,h.rng.hp⟩ h.inv.cells h0 hl hE
end Go.Proofs.YtfkgcobaheegbaaGreatDoor
