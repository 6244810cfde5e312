/- Lemmas. No conditions. -/
import Derived.Test.YtghoellpinmenaaGreatDoorSr6
set_option linter.all false
set_option maxHeartbeats 4000000
set_option maxRecDepth 10000
namespace Go.Gd
open Go
variable{P:P6}{f:FuncId}{H:Hp}{t:P1}{R:RS}{r0:AV}{B:PZ}{tl:PV}
def uj{args:PW}{K:AV->Prop}{pre post:PW}(hc:af P f args (R.e t pre post []) fun r l'=>r=r0/\l'=R.e t pre post [])(hH:H=⟨B,R.e t pre post tl⟩)
  (hp:aU cV pre=true) (hq:aU cV post=true) (hl:low tl) (ha:aU (fun i=>decide (i<4)) args=true) (h0:aQ P f=true) (k:K r0):∃r,(dp P (.raw (.func (.func f) #[] #[])) args H fun r' H'=>r'=r/\H'=H)/\K r:=
 ⟨r0,AM hc hH jl jl hp hq hl ha h0 ⟨rfl,hH.symm⟩,k⟩
variable{g:PT}{pre' post':PW}
def vC{A:AS}{args:PW}{d:fz fun r H'=>c8 A H H'/\g r H'}{pre post:PW}(hc:af P f args (R.e t pre post []) fun r l'=>r=r0/\l'=R.e t pre' post' [])(hH:H=⟨B,R.e t pre post tl⟩)
  (hA:A.1.contains 0=true) (hp:aU cV pre=true) (hq:aU cV post=true) (hl:low tl) (ha:aU (fun i=>decide (i=0)) args=true) (h0:aQ P f=true) (k:g r0 ⟨B,R.e t pre' post' tl⟩):dp P (.raw (.func (.func f) #[] #[])) args H (AP (fun r H'=>c8 A H H'/\g r H') d):=by
 refine cE (K:=fun r H'=>c8 A H H'/\g r H') hc hH jl jl hp hq hl ha h0 ⟨fun i r hi hr=>.inl ?_,k⟩;subst hH;by_cases e:i=0
 ·subst e;rw[hA]at hi;cases hi
 ·have h1:aB (R.e t pre post tl) i=some r:=hr;show aB (R.e t pre' post' tl) i=some r;rw[<-h1];unfold RS.e;simp only[aB,if_neg e]
def qV:P5:=fun i=>dn i && !(i == 4)
def Bg{i:Nat}(h:dn i=false):qV i=false:=by unfold qV;rw[h];rfl
variable{F:PW}
def Jh{fn:Func}{out:PW}{e:Exit}{t':P1}{pre post:PW}{R':RS}{x x':Row}(hH:H=⟨B,R'.e t' pre' post' ((4,x')::tl)⟩)(hB:ids (R.e t pre post [(4,x)])=B)(rs:List ResultVar)(hl:low tl)(h4:(ids tl).all (fun i=>!(i == 4))=true)(hp:aU cV pre'=true)(hq:aU cV post'=true)(hx:aU (df qV) x'.cells=true)(hr:r0.all cV=true)
  (RB:fn.results.toList=rs:=by rfl) (he:e=.normal\/e=.ret:=by first|exact Or.inr rfl|exact Or.inl rfl|fail) (ho:fP P H F rs=some out:=by first|rfl|(simp(disch:=first|omega|fail) only[go_sem,↓reduceIte,Nat.reduceEqDiff,Nat.reduceLeDiff,Nat.reduceSub,Nat.reduceAdd];rfl)) (hok:gx P H F rs:=by first|exact jI|(simp(disch:=first|omega|fail) only[go_sem,↓reduceIte,Nat.reduceEqDiff,Nat.reduceLeDiff,Nat.reduceSub,Nat.reduceAdd])) (hv:fZ out=r0:=by first|rfl|(simp only[go_sem];done)):hU P fn (fun r l=>r=r0/\l=R'.e t' pre' post' [(4,x')]) e F H:=by
 subst RB hH;have RL:∀i∈ids tl,qV i=true:=fun i hi=>by obtain⟨r,hr⟩:=Option.ne_none_iff_exists'.1 ((iu _ _).1 hi);have h1:dn i=true:=decide_eq_true (hl i r hr);unfold qV;rw[h1,Bool.true_and];exact List.all_eq_true.1 h4 i hi
 refine uc qV he ho hok ?_ ?_ (p5 hv (pF (fun _ h=>by cases h) _ (hv ▸ hr))) ?_
 ·rw[List.all_eq_true];intro i hi;rw[<-hB,RS.cA]at hi;unfold df;rcases List.mem_append.1 (by simpa[ids]using hi:i∈ids (R.e t pre post [])++[4])with hi|hi
  ·rw[Bg (RS.dn hi)];rfl
  ·rw[List.mem_singleton.1 hi];rfl
 ·rw[RS.cA];refine pV _ _ _ (oZ _ _ RS.nodup fun i r hi=>iN (fun j hj=>?_) _ (RS.closed hp hq i r hi)) ⟨.inr (zC hx),sP _ _ RL⟩;unfold df;rw[Bg (RS.dn (List.contains_iff_mem.1 hj))];rfl
 ·rw[RS.cA,pJ,oL _ _ (fun i hi=>Bg (RS.dn hi)),RS.cA (tl:=[(4,x')])];show _++(4,x')::dq qV tl=_;rw[tL _ _ RL]
def Jj{args:PW}{K:PT}{pre post:PW}{R':RS}{x x':Row}(hc:af P f (args++[.pt 4 0 0 0]) (R.e t pre post [(4,x)]) fun r l'=>r=r0/\l'=R'.e t pre' post' [(4,x')])(hH:H=⟨B,R.e t pre post ((4,x)::tl)⟩)
  (h1:R.ak.length<=R'.ak.length) (h2:R.heap.length<=R'.heap.length) (hp:aU cV pre=true) (hq:aU cV post=true) (hx:aU (fun i=>decide (i=0)) x.cells=true) (hl:low tl) (h4:(ids tl).all (fun i=>!(i == 4))=true) (ha:aU (fun i=>decide (i=0)) args=true) (h0:aQ P f=true) (k:K r0 ⟨B,R'.e t pre' post' ((4,x')::tl)⟩):dp P (.dW f [.pt 4 0 0 0]) args H K:=by
 subst hH;have X6:∀{R:RS} {pre post},aB (R.e t pre post []) 4=none:=fun{R pre post}=>RS.no 4 jB jB
 have ly:∀{R:RS} {pre post:PW} {x:Row},Lays (fun tl=>R.e t pre post ((4,x)::tl)) tl:=fun{R pre post x}=>⟨fun i=>by
  rw[RS.cA,RS.cA (tl:=[(4,x)]),jc,jc,Option.or_assoc];congr 1
  simp only[aB];split<;>rfl,fun i r hi=>by
  have:=hl i r hi;have h5:i≠4:=fun e=>by have:=List.all_eq_true.1 h4 i ((iu _ _).2 (by rw[hi];simp));subst e;simp at this
  rw[RS.cA (tl:=[(4,x)]),jc,RS.no i this.1 this.2];simp only[aB,if_neg h5,Option.or_none]⟩
 have up:∀{R:RS} {pre post:PW} {x:Row} {i:Nat},(ids (R.e t pre post [])).contains i=true->(ids (R.e t pre post [(4,x)])).contains i=true:=fun{R pre post x i} h=>by rw[RS.cA,show ids (R.e t pre post []++[(4,x)])=ids (R.e t pre post [])++[4] by simp[ids]];rw[List.contains_iff_mem]at h ⊢;exact List.mem_append_left _ h
 have i0:∀{R:RS} {pre post:PW} {x:Row} (i:Nat),decide (i=0)=true->(ids (R.e t pre post [(4,x)])).contains i=true:=fun{R pre post x} i h=>by have:i=0:=of_decide_eq_true h;subst this;exact up (mo RS.lS)
 refine C7 h0 (tJ (E:=fun tl=>R.e t pre post ((4,x)::tl)) (E':=fun tl=>R'.e t pre' post' ((4,x')::tl)) hc ly ly ?_ ?_ (fun i r hi=>?_) k fun i hi=>?_)
 ·show(ids (R'.e t pre' post' [(4,x')])).Nodup;rw[RS.cA,show ids (R'.e t pre' post' []++[(4,x')])=ids (R'.e t pre' post' [])++[4] by simp[ids],List.nodup_append];refine⟨RS.nodup,jE,fun i hi j hj e=>?_⟩;rw[List.mem_singleton.1 hj]at e;subst e;exact(iu _ _).1 hi X6
 ·show aU (fun i=>(ids (R.e t pre post [(4,x)])).contains i) (args++[.pt 4 0 0 0])=true;rw[uO,iN i0 _ ha];show(List.contains _ 4 && true)=true;rw[Bool.and_true];refine mo (r:=x) ?_;rw[RS.cA,jc,X6];rfl
 ·have hi:aB (R.e t pre post [(4,x)]) i=some r:=hi;rw[RS.cA,jc]at hi;cases e:aB (R.e t pre post []) i with
  |some y=> rw[e]at hi;cases hi;exact iN (fun _ h=>up h) _ (RS.closed hp hq i r e)
  |none=>
   rw[e,Option.none_or]at hi;simp only[aB]at hi;split at hi
   ·cases hi;exact iN i0 _ hx
   ·cases hi
 ·have hi:aB (R.e t pre post [(4,x)]) i≠none:=hi;show aB (R'.e t pre' post' [(4,x')]) i≠none;rw[RS.cA,jc]at hi ⊢;by_cases e:i=4
  ·subst e;rw[X6];simp[aB]
  ·intro e2;have:=RS.size (t:=t) (pre:=pre) (post:=post) (pre':=pre') (post':=post') h1 h2 i (fun e3=>hi (by rw[e3];simp[aB,e]));cases e3:aB (R'.e t pre' post' []) i with
   |none=>exact this e3
   |some y=>rw[e3]at e2;cases e2
theorem hJ.nil{r:AV}{H:Hp}(i:Nat)(e:P1){sz:Nat}(hi:H.get i=none)(h0:0<sz)(hs:r=.raw (.slice none 0 0)):hJ r H (.rs i 0 sz 0) (H.put i (.aG e sz [])):=fun w v h1 h2=>by
 obtain⟨w',e,a,b,c⟩:=cY.nil (F:=[r]) i 0 e hi h0 (.inl (by rw[hs];rfl)) w #[v] h1 ⟨rfl,fun k a x ha hx=>by
  match k with
  |0=>cases ha;cases hx;exact h2
  |k+1=>simp at ha⟩
 exact⟨w',e,a,b.2 0 _ v rfl rfl,c⟩
def sG{fn:Func}{out:PW}{e:Exit}(i:Nat)(t:P1)(sz:Nat)(h0:0<sz)(rs:List ResultVar)(X7:fZ out=.raw (.slice none 0 0))(ho:fP P ⟨[],[]⟩ F rs=some out)(hok:gx P ⟨[],[]⟩ F rs)(RB:fn.results.toList=rs:=by rfl)(he:e=.normal\/e=.ret:=by first|exact Or.inr rfl|exact Or.inl rfl|fail) :
  hU P fn (fun r l=>r=.rs i 0 sz 0/\l=[(i,.aG t sz [])]) e F ⟨[],[]⟩:=by
 subst RB;exact rk he ho hok _ _ (hJ.nil i t rfl h0 X7) ⟨rfl,rfl⟩
def Gh{α:Type}[Inhabited α](f:α->PW)(l:List α):l.map f=dh l.length fun k=>f (nth l k):=A2 jE fun k hk=>by rw[tH _ _ _ hk,gD hk]
def cY.zE(j k sz:Nat)(d:PW){cs:PW}(hj:H.get j=some (.var t cs))(hk:cs[k]?=some (.raw (.slice none 0 0))):cY F H F ⟨H.B,eD H.l j (.var t (cs.set k (.sl false sz [] d)))⟩:=by
 have hF:∀(l:PW),bc (fun _=>false) H l l:=fun l=>by
  induction l with
  |nil=>trivial
  |cons a l ih=>exact⟨.same _ (by
   have:(df fun _=>false)=fun _=>true:=rfl
   rw[this];exact lW a),ih⟩
 have hs:∀(l:PW) (k:Nat),l[k]?=some (.raw (.slice none 0 0))->bc (fun _=>false) H l (l.set k (.sl false sz [] d)):=fun l=>by
  induction l with
  |nil=>intro k h;simp at h
  |cons a l ih=>
   intro k h;cases k with
   |zero=>simp at h;subst h;exact⟨db.nil _ _,hF l⟩
   |succ k=>exact⟨(hF (a::l)).1,ih k (by simpa using h)⟩
 have J':∀(l:PV),eL (fun _=>false) l:=fun l=>by
  induction l with
  |nil=>trivial
  |cons x l ih=>exact⟨.inr (zC (by
   have:(df fun _=>false)=fun _=>true:=rfl
   rw[this];exact tf _)),ih⟩
 have:=cY.uN (F:=F) (F':=F) (H:=H) (fun _=>false) j (cs.set k (.sl false sz [] d)) hj rfl (hs cs k hk) (List.all_eq_true.2 fun _ _=>rfl) (J' _) (hF F);rw[oL _ _ fun _ _=>rfl]at this;exact this
def DS{A:AS}{args:PW}{d:fz fun r H'=>c8 A H H'/\g r H'}(hc:af P f args [] fun r l=>r=r0/\l=R.rows)(hH:H=⟨[],tl⟩)(k:g r0 ⟨[],R.cI tl⟩)(hl:low tl:=by exact aM)(h2:aU cV args=true:=by rfl)(h0:aQ P f=true:=by(simp only[go_sem];done)):dp P (.raw (.func (.func f) #[] #[])) args H (AP (fun r H'=>c8 A H H'/\g r H') d):=
 cR (K:=fun r H'=>c8 A H H'/\g r H') hc hH hl h2 h0 ⟨fun i r _ hr=>.inl (by subst hH;have hr:aB tl i=some r:=hr;have:=hl i r hr;show aB (R.cI tl) i=some r;rw[RS.cF,jc,RS.ei i (.inr this.1) this.2,hr];rfl),k⟩
end Go.Gd
namespace Go.Proofs.YtghoellpinmenaaGreatDoor
open Go Go.Gd Tryz
variable{p:ae}
def Mf(h:bY p)(inp:PY)(R:RS)(hd:bo p R)(hk:(aJ p (aW p R.st)).kind=14)(Sb:∀x:Int,0<=x->x.toNat<p.aa.nodes.length->cr (bJ p.aa.nodes x)->bn (R.val p x).1.n)(R':RS)(tr:Int)(u':(R',tr)=R.bF p (aW p R.st) inp) :
  af prog 241 [.pt 0 0 0 0,.agg (bX (aJ p (aW p R.st))),rI (aW p R.st)] (aI p inp 0 R []) (fun r l=>r=.bt []/\l=aI p inp tr R' []):=by
 have hok:=hd.inv.ok;have Qy:=hok.nf;have h1:=hd.one;have Rt:=hd.inv.ak;have Qi:=gX R.heap;have Rv:=hd.cells;have UR:=hd.outs;have J':=hd.fy h;obtain⟨s0,s1,s2,s3,s4,s5⟩:=hd.stmt h;have QH:=J'.sl;have QN:=hd.gr h;generalize aW p R.st=a at*;have O':(nth p.aa.nodes a.toNat).kind=14:=hk;unfold RS.bF at u';simp only[hk]at u';rw[jN,jN,jN,jN]at u';obtain⟨x,Qa,Sz⟩:=(h.ok.aa.shape a.toNat s1).1.one jB;have UU:=(h.ok.aa.shape a.toNat s1).2.1 x (by rw[Qa];simp);have Qc:nth (nth p.aa.nodes a.toNat).l 0=x:=by rw[Qa];rfl
 have Qj:(nth p.aa.nodes a.toNat).l.length=1:=by rw[Qa];rfl
 have QB:=pD h inp 0 R hok h1 jB jB x UU.1 jB Sz;have V2:=Sb x UU.1 jB Sz;rw[show nth (aJ p a).l 0=x from Qc]at u';have Qr:¬gg p a:=fun e=>by unfold gg at e;omega
 have QZ:=qu p inp 0 R (decide ((R.aS.length:Int)<24)) 5;unfold aJ at*;have XW:=OT (R.val p x).1 V2;have S5:=fun(R2:RS) (ho:gv R2)=>show af prog 140 _ _ (fun r l=>r=.bt []/\l=aI p inp 0 R2.on []) by have:=r5 p inp 0 a (R.val p x).1 R2 ho s0 s1 QH (fun e=>(Qr e).elim);rwa [if_neg Qr]at this
 generalize R.val p x=X at*;by_cases hz:X.2=0
 rotate_left
 ·rw[if_pos hz]at u';obtain⟨rfl,rfl⟩:=Prod.mk.inj u';have Rq:=eq_false hz;suffices key2:∀R2:RS,R2=R'->af prog 241 [.pt 0 0 0 0,.agg (bX (nth p.aa.nodes a.toNat)),rI a] (aI p inp 0 R' []) (fun r l=>r=.bt []/\l=aI p inp X.2 R2 []) from key2 R' rfl
  intro R2 Q9;refine aO func241 ntmps241 ?_;generalize hB:ids (aI p inp 0 R' [])=B;generalize hE:aI p inp X.2 R2 []=E;refine S ?_
  (have W:=jA Qj (jA Qc (Rq));repeat' (first|(with_reducible refine gR 2 ?_);refine sS [27] ?_|refine aq fun K hK=>?_|refine am ?_|(with_reducible refine gR 3 ?_);refine dC 3 ([],[36],[]) [] (au 0 14) mixed ?_|(refine hK _ _ ?_;clear hK K)|(refine ao ?_ ?_<;>intro hc<;>try exact jz)|refine bz 4 ?_|refine bf 5 ?_|(refine cE (R:=R') (R':=R') (pre:=aK p) (post:=[ax eI 1 inp,rI 0]) (pre':=aK p) (post':=[ax eI 1 inp,rI X.2]) QB rfl jl jl rfl rfl aM rfl jD ?_;try refine S ?_)|(refine cn ?_ ?_<;>intro hc<;>try exact jz)|refine ap ?_|exact jI|(clear hK K)))
  subst hE;subst Q9;exact c7 (R':=R2) (pre':=aK p) (post':=[ax eI 1 inp,rI X.2]) rfl hB [] aM rfl rfl rfl
 rw[if_neg (fun e=>e hz),if_pos trivial]at u';rw[hz]at QB;by_cases ho:24<=R.aS.length
 ·rw[if_pos ho]at u';obtain⟨rfl,rfl⟩:=Prod.mk.inj u';have e:(if decide ((R'.aS.length:Int)<24)=true then(0:Int)else 5)=5:=if_neg (by rw[decide_eq_false jB];decide);rw[e]at QZ;suffices key2:∀R2:RS,R2=R'->af prog 241 [.pt 0 0 0 0,.agg (bX (nth p.aa.nodes a.toNat)),rI a] (aI p inp 0 R' []) (fun r l=>r=.bt []/\l=aI p inp 5 R2 []) from key2 R' rfl
  intro R2 Q9;refine aO func241 ntmps241 ?_;generalize hB:ids (aI p inp 0 R' [])=B;generalize hE:aI p inp 5 R2 []=E;refine S ?_
  (have W:=jA Qj Qc;repeat' (first|(with_reducible refine gR 2 ?_);refine sS [27] ?_|refine aq fun K hK=>?_|refine am ?_|(with_reducible refine gR 3 ?_);refine dC 3 ([],[36],[]) [] (au 0 14) mixed ?_|(refine hK _ _ ?_;clear hK K)|(refine ao ?_ ?_<;>intro hc<;>try exact jz)|refine bz 4 ?_|refine bf 5 ?_|(refine cE (R:=R') (R':=R') (pre:=aK p) (post:=[ax eI 1 inp,rI 0]) (pre':=aK p) (post':=[ax eI 1 inp,rI 0]) QB rfl jl jl rfl rfl aM rfl jD ?_;try refine S ?_)|(refine cE (R:=R') (R':=R') (pre:=aK p) (post:=[ax eI 1 inp,rI 0]) (pre':=aK p) (post':=[ax eI 1 inp,rI 5]) QZ rfl jl jl rfl rfl aM rfl jD ?_;try refine S ?_)|(refine cn ?_ ?_<;>intro hc<;>try exact jz)|refine ap ?_|exact jI|(clear hK K)))
  subst hE;subst Q9;exact c7 (R':=R2) (pre':=aK p) (post':=[ax eI 1 inp,rI 5]) rfl hB [] aM rfl rfl rfl
 ·rw[if_neg ho]at u';obtain⟨rfl,rfl⟩:=Prod.mk.inj u';have e:(if decide ((R.aS.length:Int)<24)=true then(0:Int)else 5)=0:=if_pos (decide_eq_true jB);rw[e]at QZ;have Vt:=S5 (R.fl (kn X.1)) (sj QN rfl rfl rfl);show af _ _ _ _ (fun r l=>r=.bt []/\l=aI p inp 0 (R.fl (kn X.1)).on []);have hws:(kn X.1).size<=1000000\/True:=.inr trivial;refine aO func241 ntmps241 ?_;generalize hB:ids (aI p inp 0 R [])=B;generalize hE:aI p inp 0 (R.fl (kn X.1)).on []=E;refine S ?_
  (have W:=jA Qj Qc;repeat' (first|(with_reducible refine gR 2 ?_);refine sS [27] ?_|refine aq fun K hK=>?_|refine am ?_|(with_reducible refine gR 3 ?_);refine dC 3 ([],[36],[]) [] (au 0 14) mixed ?_|(refine hK _ _ ?_;clear hK K)|(refine ao ?_ ?_<;>intro hc<;>try exact jz)|refine bz 4 ?_|refine bf 5 ?_|(refine cE (R:=R) (R':=R) (pre:=aK p) (post:=[ax eI 1 inp,rI 0]) (pre':=aK p) (post':=[ax eI 1 inp,rI 0]) QB rfl jl jl rfl rfl aM rfl jD ?_;try refine S ?_)|(refine cE (R:=R) (R':=R) (pre:=aK p) (post:=[ax eI 1 inp,rI 0]) (pre':=aK p) (post':=[ax eI 1 inp,rI 0]) QZ rfl jl jl rfl rfl aM rfl jD ?_;try refine S ?_)|(refine cE (R:=R.fl (kn X.1)) (R':=(R.fl (kn X.1)).on) (pre:=aK p) (post:=[ax eI 1 inp,rI 0]) (pre':=aK p) (post':=[ax eI 1 inp,rI 0]) Vt (congrArg (Hp.mk B) (Gt (w:=kn X.1) (by simp[RS.c,RS.fl,aK]) (by rfl))) (Nat.le_of_eq RS.aT) jl rfl rfl aM rfl jD ?_;try refine S ?_)|refine cq (XW) ?_|(refine cn ?_ ?_<;>intro hc<;>try exact jz)|refine ap ?_|exact jI|(clear hK K)))
  subst hE;exact c7 (R':=(R.fl (kn X.1)).on) (pre':=aK p) (post':=[ax eI 1 inp,rI 0]) rfl hB [] aM rfl rfl rfl
def MB(p:ae)(inp:PY)(tr:Int)(R:RS)(v:ai)(hh:R.heap.length<=1000000) :
  af prog 249 [.rs 2 R.heap.length 1 R.heap.length,rV v] (aI p inp tr R []) (fun r l=>r=R.fc v/\l=aI p inp tr R []):=by
 suffices key:∀R':RS,R'=R->af prog 249 [.rs 2 R.heap.length 1 R.heap.length,rV v] (aI p inp tr R []) (fun r l=>r=R.fc v/\l=aI p inp tr R' []) from key R rfl
 intro R' u';by_cases c:v.ty≠4\/v.n<1\/(R.heap.length:Int)<v.n
 all_goals
  unfold RS.fc;first|rw[if_pos c]|rw[if_neg c]
  refine aO func249 ntmps249 ?_;generalize hB:ids (aI p inp tr R [])=B;generalize hE:aI p inp tr R' []=E;refine S ?_
  (repeat' (first|refine aq fun K hK=>?_|refine am ?_|(refine hK _ _ ?_;clear hK K)|(refine ao ?_ ?_<;>intro hc<;>try exact jz)|refine bz 4 ?_|refine bz 5 ?_|refine ap ?_|exact jI|(clear hK K)))
  subst hE;subst u';exact wX (R':=R') (pre':=aK p) (post':=[ax eI 1 inp,rI tr]) rfl hB [.tmp 4] aM rfl rfl (by simp[go_sem,sO])
def OR(h:bY p)(inp:PY)(R:RS)(hd:bo p R)(hk:(aJ p (aW p R.st)).kind=12) :
  af prog 240 [.pt 0 0 0 0,.agg (bX (aJ p (aW p R.st))),rI (aW p R.st)] (aI p inp 0 R []) (fun r l=>r=.bt []/\l=aI p inp (R.put p (aW p R.st)).2 (R.put p (aW p R.st)).1 []):=by
 have hok:=hd.inv.ok;have Qy:=hok.nf;have h1:=hd.one;have Rt:=hd.inv.ak;have Qi:=gX R.heap;have Rv:=hd.cells;have J':=hd.fy h;obtain⟨s0,s1,s2,s3,s4,s5⟩:=hd.stmt h;have QH:=J'.sl;have RK:R.nf-1<R.ak.length:=jB;have QN:=hd.gr h;generalize ha:aW p R.st=a at*;have O':(nth p.aa.nodes a.toNat).kind=12:=hk;obtain⟨x,y,Qa,hx,hy⟩:=(h.ok.aa.shape a.toNat s1).1.two (.inr hk);have Q7:=(h.ok.aa.shape a.toNat s1).2.1 x (by rw[Qa];simp);have Wd:=(h.ok.aa.shape a.toNat s1).2.1 y (by rw[Qa];simp);have Qc:nth (nth p.aa.nodes a.toNat).l 0=x:=by rw[Qa];rfl
 have Rg:nth (nth p.aa.nodes a.toNat).l 1=y:=by rw[Qa];rfl
 have Qj:(nth p.aa.nodes a.toNat).l.length=2:=by rw[Qa];rfl
 have QB:=pD h inp 0 R hok h1 jB jB x Q7.1 jB hx;have T5:=pD h inp 0 R hok h1 jB jB y Wd.1 jB hy;have QT:=q9 p inp 0 R hok h1 jB;have Qo:=yj R.aF.ab (nth p.ab a.toNat) 4;have Tz:=MB p inp 0 R (gA R.aF.ab (nth p.ab a.toNat) 4) jB;have Qr:¬gg p a:=fun e=>by unfold gg at e;omega
 have S5:=fun(R2:RS) (ho:gv R2)=>show af prog 140 _ _ (fun r l=>r=.bt []/\l=aI p inp 0 R2.on []) by have:=r5 p inp 0 a v0 R2 ho s0 s1 QH (fun e=>(Qr e).elim);rwa [if_neg Qr]at this
 have S8:R.put p a=(let x:=R.val p x;let y:=R.val p y;let v:=gA R.aF.ab (nth p.ab a.toNat) 4;if x.2≠0 then(R,x.2)else if y.2≠0 then(R,y.2)else if x.1.n<0\/((fq R.heap v).length:Int)<=x.1.n then(R,2)
   else((R.ez (v.n-1).toNat ((nth R.heap (v.n-1).toNat).set x.1.n.toNat y.1.n)).on,0)):=by
  unfold RS.put;rw[show nth (aJ p a).l 0=x from Qc,show nth (aJ p a).l 1=y from Rg];rfl
 rw[S8];unfold aJ;generalize R.val p x=X at QB ⊢;generalize R.val p y=Y at T5 ⊢;generalize hV:gA R.aF.ab (nth p.ab a.toNat) 4=V at*;simp only;have hL:(R.fc V=.raw (.slice none 0 0)/\fq R.heap V=[])\/(1<=V.n/\V.n<=R.heap.length/\R.fc V=.rs (bj 2 (V.n-1).toNat) (nth R.heap (V.n-1).toNat).length 1 (nth R.heap (V.n-1).toNat).length/\fq R.heap V=nth R.heap (V.n-1).toNat):=by
  unfold RS.fc fq;by_cases c:V.ty≠4\/V.n<1\/(R.heap.length:Int)<V.n
  ·rw[if_pos c,if_pos c];exact .inl ⟨rfl,rfl⟩
  ·rw[if_neg c,if_neg c];exact .inr ⟨jB,jB,rfl,rfl⟩
 have QO:((fq R.heap V).length:Int)<=40:=by
  rcases hL with⟨_,e⟩|⟨c1,c2,_,e⟩
  ·rw[e];simp
  ·rw[e];have:=sZ R.heap (V.n-1).toNat jB;omega
 by_cases c0:X.2=0
 rotate_left
 ·rw[if_pos c0];have c0':=eq_false c0;suffices key2:∀R2:RS,R2=R->af prog 240 [.pt 0 0 0 0,.agg (bX (nth p.aa.nodes a.toNat)),rI a] (aI p inp 0 R []) (fun r l=>r=.bt []/\l=aI p inp X.2 R2 []) from key2 R rfl
  intro R2 Q9;refine aO func240 ntmps240 ?_;generalize hB:ids (aI p inp 0 R [])=B;generalize hE:aI p inp X.2 R2 []=E;refine S ?_
  (have W:=jA Qc (jA Rg (jA Qj (c0')));repeat' (first|refine aq fun K hK=>?_|refine am ?_|(with_reducible refine gR 5 ?_);refine dQ 5 mixed ?_|(refine hK _ _ ?_;clear hK K)|(refine ao ?_ ?_<;>intro hc<;>try exact jz)|refine bz 4 ?_|refine bf 5 ?_|refine bf 6 ?_|(refine cE (R:=R) (R':=R) (pre:=aK p) (post:=[ax eI 1 inp,rI 0]) (pre':=aK p) (post':=[ax eI 1 inp,rI X.2]) QB rfl jl jl rfl rfl aM rfl jD ?_;try refine S ?_)|(refine cE (R:=R) (R':=R) (pre:=aK p) (post:=[ax eI 1 inp,rI 0]) (pre':=aK p) (post':=[ax eI 1 inp,rI Y.2]) T5 rfl jl jl rfl rfl aM rfl jD ?_;try refine S ?_)|(refine kS (R:=R) (pre:=aK p) (post:=[ax eI 1 inp,rI 0]) QT rfl rfl rfl aM rfl jD ?_;try refine S ?_)|(refine mM (args':=[kq R.aF.ab,rI (nth p.ab a.toNat),rI 4]) Qo (show bc _ ⟨B,aI p inp 0 R _⟩ _ _ from⟨RS.iy RK (fun _=>rfl) rfl,.same _ rfl,.same _ rfl,trivial⟩) rfl jD ?_;try refine S ?_)|(refine uj (R:=R) (pre:=aK p) (post:=[ax eI 1 inp,rI 0]) Tz rfl rfl rfl aM rfl jD ?_;try refine S ?_)|refine ap ?_|exact jI|(clear hK K)))
  subst hE;subst Q9;exact c7 (R':=R2) (pre':=aK p) (post':=[ax eI 1 inp,rI X.2]) rfl hB [] aM rfl rfl rfl
 rw[if_neg (fun h=>h c0)];rw[c0]at QB;by_cases c1:Y.2=0
 rotate_left
 ·rw[if_pos c1];have c1':=eq_false c1;suffices key2:∀R2:RS,R2=R->af prog 240 [.pt 0 0 0 0,.agg (bX (nth p.aa.nodes a.toNat)),rI a] (aI p inp 0 R []) (fun r l=>r=.bt []/\l=aI p inp Y.2 R2 []) from key2 R rfl
  intro R2 Q9;refine aO func240 ntmps240 ?_;generalize hB:ids (aI p inp 0 R [])=B;generalize hE:aI p inp Y.2 R2 []=E;refine S ?_
  (have W:=jA Qc (jA Rg (jA Qj (c1')));repeat' (first|refine aq fun K hK=>?_|refine am ?_|(with_reducible refine gR 5 ?_);refine dQ 5 mixed ?_|(refine hK _ _ ?_;clear hK K)|(refine ao ?_ ?_<;>intro hc<;>try exact jz)|refine bz 4 ?_|refine bf 5 ?_|refine bf 6 ?_|(refine cE (R:=R) (R':=R) (pre:=aK p) (post:=[ax eI 1 inp,rI 0]) (pre':=aK p) (post':=[ax eI 1 inp,rI 0]) QB rfl jl jl rfl rfl aM rfl jD ?_;try refine S ?_)|(refine cE (R:=R) (R':=R) (pre:=aK p) (post:=[ax eI 1 inp,rI 0]) (pre':=aK p) (post':=[ax eI 1 inp,rI Y.2]) T5 rfl jl jl rfl rfl aM rfl jD ?_;try refine S ?_)|(refine kS (R:=R) (pre:=aK p) (post:=[ax eI 1 inp,rI 0]) QT rfl rfl rfl aM rfl jD ?_;try refine S ?_)|(refine mM (args':=[kq R.aF.ab,rI (nth p.ab a.toNat),rI 4]) Qo (show bc _ ⟨B,aI p inp 0 R _⟩ _ _ from⟨RS.iy RK (fun _=>rfl) rfl,.same _ rfl,.same _ rfl,trivial⟩) rfl jD ?_;try refine S ?_)|(refine uj (R:=R) (pre:=aK p) (post:=[ax eI 1 inp,rI 0]) Tz rfl rfl rfl aM rfl jD ?_;try refine S ?_)|refine ap ?_|exact jI|(clear hK K)))
  subst hE;subst Q9;exact c7 (R':=R2) (pre':=aK p) (post':=[ax eI 1 inp,rI Y.2]) rfl hB [] aM rfl rfl rfl
 rw[if_neg (fun h=>h c1)];rw[c1]at T5;by_cases c2:X.1.n<0\/((fq R.heap V).length:Int)<=X.1.n
 ·rw[if_pos c2];suffices key2:∀R2:RS,R2=R->af prog 240 [.pt 0 0 0 0,.agg (bX (nth p.aa.nodes a.toNat)),rI a] (aI p inp 0 R []) (fun r l=>r=.bt []/\l=aI p inp 2 R2 []) from key2 R rfl
  intro R2 Q9;have QZ:∀n:Int,(X.1.n<0\/n<=X.1.n)->af prog 251 [.pt 0 0 0 0,rB (decide (0<=X.1.n) && decide (X.1.n<n)),rI 2] (aI p inp 0 R []) (fun r l=>r=rB false/\l=aI p inp 2 R []):=fun n hn=>by
   have e:(decide (0<=X.1.n) && decide (X.1.n<n))=false:=by simp;omega
   rw[e];exact qu p inp 0 R false 2
  rcases hL with⟨e1,e2⟩|⟨cv1,cv2,e1,e2⟩
  ·rw[e1]at Tz;rw[e2]at c2 QO;have QZ:=QZ 0 c2;refine aO func240 ntmps240 ?_;generalize hB:ids (aI p inp 0 R [])=B;generalize hE:aI p inp 2 R2 []=E;refine S ?_
   (have W:=jA Qc (jA Rg (Qj));repeat' (first|refine aq fun K hK=>?_|refine am ?_|(with_reducible refine gR 5 ?_);refine dQ 5 mixed ?_|(refine hK _ _ ?_;clear hK K)|(refine ao ?_ ?_<;>intro hc<;>try exact jz)|refine bz 4 ?_|refine bf 5 ?_|refine bf 6 ?_|(refine cE (R:=R) (R':=R) (pre:=aK p) (post:=[ax eI 1 inp,rI 0]) (pre':=aK p) (post':=[ax eI 1 inp,rI 0]) QB rfl jl jl rfl rfl aM rfl jD ?_;try refine S ?_)|(refine cE (R:=R) (R':=R) (pre:=aK p) (post:=[ax eI 1 inp,rI 0]) (pre':=aK p) (post':=[ax eI 1 inp,rI 0]) T5 rfl jl jl rfl rfl aM rfl jD ?_;try refine S ?_)|(refine kS (R:=R) (pre:=aK p) (post:=[ax eI 1 inp,rI 0]) QT rfl rfl rfl aM rfl jD ?_;try refine S ?_)|(refine mM (args':=[kq R.aF.ab,rI (nth p.ab a.toNat),rI 4]) Qo (show bc _ ⟨B,aI p inp 0 R _⟩ _ _ from⟨RS.iy RK (fun _=>rfl) rfl,.same _ rfl,.same _ rfl,trivial⟩) rfl jD ?_;try refine S ?_)|(refine uj (R:=R) (pre:=aK p) (post:=[ax eI 1 inp,rI 0]) Tz rfl rfl rfl aM rfl jD ?_;try refine S ?_)|(refine cE (R:=R) (R':=R) (pre:=aK p) (post:=[ax eI 1 inp,rI 0]) (pre':=aK p) (post':=[ax eI 1 inp,rI 2]) QZ rfl jl jl rfl rfl aM rfl jD ?_;try refine S ?_)|refine ap ?_|exact jI|(clear hK K)))
   all_goals
    subst hE;subst Q9;exact c7 (R':=R2) (pre':=aK p) (post':=[ax eI 1 inp,rI 2]) rfl hB [] aM rfl rfl rfl
  ·rw[e1]at Tz;rw[e2]at c2 QO;have QZ:=QZ _ c2;refine aO func240 ntmps240 ?_;generalize hB:ids (aI p inp 0 R [])=B;generalize hE:aI p inp 2 R2 []=E;refine S ?_
   (have W:=jA Qc (jA Rg (Qj));repeat' (first|refine aq fun K hK=>?_|refine am ?_|(with_reducible refine gR 5 ?_);refine dQ 5 mixed ?_|(refine hK _ _ ?_;clear hK K)|(refine ao ?_ ?_<;>intro hc<;>try exact jz)|refine bz 4 ?_|refine bf 5 ?_|refine bf 6 ?_|(refine cE (R:=R) (R':=R) (pre:=aK p) (post:=[ax eI 1 inp,rI 0]) (pre':=aK p) (post':=[ax eI 1 inp,rI 0]) QB rfl jl jl rfl rfl aM rfl jD ?_;try refine S ?_)|(refine cE (R:=R) (R':=R) (pre:=aK p) (post:=[ax eI 1 inp,rI 0]) (pre':=aK p) (post':=[ax eI 1 inp,rI 0]) T5 rfl jl jl rfl rfl aM rfl jD ?_;try refine S ?_)|(refine kS (R:=R) (pre:=aK p) (post:=[ax eI 1 inp,rI 0]) QT rfl rfl rfl aM rfl jD ?_;try refine S ?_)|(refine mM (args':=[kq R.aF.ab,rI (nth p.ab a.toNat),rI 4]) Qo (show bc _ ⟨B,aI p inp 0 R _⟩ _ _ from⟨RS.iy RK (fun _=>rfl) rfl,.same _ rfl,.same _ rfl,trivial⟩) rfl jD ?_;try refine S ?_)|(refine uj (R:=R) (pre:=aK p) (post:=[ax eI 1 inp,rI 0]) Tz rfl rfl rfl aM rfl jD ?_;try refine S ?_)|(refine cE (R:=R) (R':=R) (pre:=aK p) (post:=[ax eI 1 inp,rI 0]) (pre':=aK p) (post':=[ax eI 1 inp,rI 2]) QZ rfl jl jl rfl rfl aM rfl jD ?_;try refine S ?_)|refine ap ?_|exact jI|(clear hK K)))
   all_goals
    subst hE;subst Q9;exact c7 (R':=R2) (pre':=aK p) (post':=[ax eI 1 inp,rI 2]) rfl hB [] aM rfl rfl rfl
 rw[if_neg c2];rcases hL with⟨e1,e2⟩|⟨cv1,cv2,e1,e2⟩
 ·rw[e2]at c2;exfalso;simp at c2;omega
 rw[e1]at Tz;rw[e2]at c2 QO;have XR:(V.n-1).toNat<R.heap.length:=jB;have QZ:af prog 251 [.pt 0 0 0 0,rB (decide (0<=X.1.n) && decide (X.1.n<(nth R.heap (V.n-1).toNat).length)),rI 2] (aI p inp 0 R []) (fun r l=>r=rB true/\l=aI p inp 0 R []):=by
  have e:(decide (0<=X.1.n) && decide (X.1.n<((nth R.heap (V.n-1).toNat).length:Int)))=true:=by simp only[Bool.and_eq_true,decide_eq_true_eq];omega
  rw[e];exact qu p inp 0 R true 2
 have Vt:=S5 (R.ez (V.n-1).toNat ((nth R.heap (V.n-1).toNat).set X.1.n.toNat Y.1.n)) (sj QN rfl rfl rfl);have P':(R.ez (V.n-1).toNat ((nth R.heap (V.n-1).toNat).set X.1.n.toNat Y.1.n)).heap.length=R.heap.length:=by simp[RS.ez]
 refine aO func240 ntmps240 ?_;generalize hB:ids (aI p inp 0 R [])=B;generalize hE:aI p inp 0 (R.ez (V.n-1).toNat ((nth R.heap (V.n-1).toNat).set X.1.n.toNat Y.1.n)).on []=E;refine S ?_
 (have W:=jA Qc (jA Rg (Qj));repeat' (first|refine aq fun K hK=>?_|refine am ?_|(with_reducible refine gR 5 ?_);refine dQ 5 mixed ?_|(refine hK _ _ ?_;clear hK K)|(refine ao ?_ ?_<;>intro hc<;>try exact jz)|refine bz 4 ?_|refine bf 5 ?_|refine bf 6 ?_|(refine cE (R:=R) (R':=R) (pre:=aK p) (post:=[ax eI 1 inp,rI 0]) (pre':=aK p) (post':=[ax eI 1 inp,rI 0]) QB rfl jl jl rfl rfl aM rfl jD ?_;try refine S ?_)|(refine cE (R:=R) (R':=R) (pre:=aK p) (post:=[ax eI 1 inp,rI 0]) (pre':=aK p) (post':=[ax eI 1 inp,rI 0]) T5 rfl jl jl rfl rfl aM rfl jD ?_;try refine S ?_)|(refine kS (R:=R) (pre:=aK p) (post:=[ax eI 1 inp,rI 0]) QT rfl rfl rfl aM rfl jD ?_;try refine S ?_)|(refine mM (args':=[kq R.aF.ab,rI (nth p.ab a.toNat),rI 4]) Qo (show bc _ ⟨B,aI p inp 0 R _⟩ _ _ from⟨RS.iy RK (fun _=>rfl) rfl,.same _ rfl,.same _ rfl,trivial⟩) rfl jD ?_;try refine S ?_)|(refine uj (R:=R) (pre:=aK p) (post:=[ax eI 1 inp,rI 0]) Tz rfl rfl rfl aM rfl jD ?_;try refine S ?_)|(refine cE (R:=R) (R':=R) (pre:=aK p) (post:=[ax eI 1 inp,rI 0]) (pre':=aK p) (post':=[ax eI 1 inp,rI 0]) QZ rfl jl jl rfl rfl aM rfl jD ?_;try refine S ?_)|(refine cE (R:=(R.ez (V.n-1).toNat ((nth R.heap (V.n-1).toNat).set X.1.n.toNat Y.1.n))) (R':=(R.ez (V.n-1).toNat ((nth R.heap (V.n-1).toNat).set X.1.n.toNat Y.1.n)).on) (pre:=aK p) (post:=[ax eI 1 inp,rI 0]) (pre':=aK p) (post':=[ax eI 1 inp,rI 0]) Vt (congrArg (Hp.mk B) (RS.nQ (R:=R) (k:=(V.n-1).toNat) (l:=(nth R.heap (V.n-1).toNat).set X.1.n.toNat Y.1.n) XR jE rfl fun j=>rfl)) (Nat.le_of_eq RS.aT) jl rfl rfl aM rfl jD ?_;try refine S ?_)|refine ap ?_|exact jI|(clear hK K)))
 subst hE;exact c7 (R':=(R.ez (V.n-1).toNat ((nth R.heap (V.n-1).toNat).set X.1.n.toNat Y.1.n)).on) (pre':=aK p) (post':=[ax eI 1 inp,rI 0]) rfl hB [] aM rfl rfl rfl
def Ka(h:PX)(hh:fj h<=1000000):aA prog 253 [kP h] (rI (fj h)):=by
 have g':=gX h;have hf:∀k,(h.take k).foldl gb (h.length:Int)<=fj h/\0<=(h.take k).foldl gb (h.length:Int):=fun k=>by
  have e:fj h=(h.drop k).foldl gb ((h.take k).foldl gb (h.length:Int)):=by unfold fj;rw[<-List.foldl_append,List.take_append_drop]
  rw[e,kY (h.drop k),kY (h.take k)];have:=rM (h.drop k);have:=rM (h.take k);omega
 refine bI func253 ntmps253 ?_
 (repeat' (first|refine aq fun K hK=>?_|refine am ?_|(refine hK _ _ ?_;clear hK K)|(refine ao ?_ ?_<;>intro hc<;>try exact jz)|(refine cn ?_ ?_<;>intro hc<;>try exact jz)|refine ap ?_|exact jI|(clear hK K)))
 have M':=hK;clear hK;refine de (S:=Nat) [(3,1),(5,1),(10,9)] (fun k=>k<=h.length) (fun k=>[(3,rI ((h.take k).foldl gb (h.length:Int))),(10,rI k)]) (fun k=>⟨[],[]⟩) (fun k=>h.length-k) 0 jB (dc jD bK) ?_;rintro k hk Kr P9;have h1:=hf k;have h2:k<h.length->(h.take k).foldl gb (h.length:Int)+(nth h k).length<=1000000:=fun hk=>by have:=hf (k+1);rw[wD h k hk]at this;omega
 refine S ?_
 (repeat' (first|refine aq fun K hK=>?_|refine am ?_|(refine hK _ _ ?_;clear hK K)|(refine ao ?_ ?_<;>intro hc<;>try exact jz)|refine M' _ _ ?_|(refine cn ?_ ?_<;>intro hc<;>try exact jz)|refine ap ?_|exact jI|(clear hK K)))
 ·have e:=wD h k jB (h.length:Int);refine P9 _ _ (dI (k+1) jB jJ jD ?_);rw[e];exact bK
 ·(refine aY [.tmp 2] ?_;try simp only[go_sem])
  rw[show k=h.length from jB,List.take_length];rfl
def NN(h:bY p)(inp:PY)(R:RS)(hd:bo p R)(a:Int)(h0:0<=a)(hl:a.toNat<p.aa.nodes.length)(hk:(aJ p a).kind=20) :
  af prog 247 [.pt 0 0 0 0,rI (nth (aJ p a).l 0)] (aI p inp 0 R []) (fun r l=>r=.bt [rV (R.fresh p a).2.1,rB (decide ((R.fresh p a).2.2=0))]/\l=aI p inp (R.fresh p a).2.2 (R.fresh p a).1 []):=by
 have hok:=hd.inv.ok;have Qy:=hok.nf;have h1:=hd.one;have Rt:=hd.inv.ak;have Qi:=gX R.heap;have Rv:=hd.cells;obtain⟨x,Qa,hx⟩:=(h.ok.aa.shape a.toNat hl).1.one (.inr (.inr (.inr (.inr (.inr hk)))));have QX:=(h.ok.aa.shape a.toNat hl).2.1 x (by rw[Qa];simp);have Qc:nth (nth p.aa.nodes a.toNat).l 0=x:=by rw[Qa];rfl
 have Qj:(nth p.aa.nodes a.toNat).l.length=1:=by rw[Qa];rfl
 have hv:=pD h inp 0 R hok h1 jB jB x QX.1 jB hx;have S7:=Ka R.heap jB;have S8:R.fresh p a=(let v:=R.val p x;if v.2≠0 then(R,v0,v.2)else if v.1.n<0\/16<v.1.n then(R,v0,7)else if 40<fj R.heap+v.1.n+1 then(R,v0,4)else(R.grow (List.replicate v.1.n.toNat 0),⟨4,R.heap.length+1,sE⟩,0)):=by unfold RS.fresh;rw[show nth (aJ p a).l 0=x from Qc];rfl
 rw[S8,show nth (aJ p a).l 0=x from Qc];generalize R.val p x=X at hv ⊢;simp only;by_cases c0:X.2=0
 rotate_left
 ·rw[if_pos c0];have c0':=eq_false c0;show af _ _ _ _ (fun r l=>r=.bt [rV v0,rB (decide (X.2=0))]/\l=aI p inp X.2 R []);rw[decide_eq_false c0]at hv ⊢;suffices key2:∀R2:RS,R2=R->af prog 247 [.pt 0 0 0 0,rI x] (aI p inp 0 R []) (fun r l=>r=.bt [rV v0,rB false]/\l=aI p inp X.2 R2 []) from key2 R rfl
  intro R2 Q9;refine aO func247 ntmps247 ?_;generalize hB:ids (aI p inp 0 R [])=B;generalize hE:aI p inp X.2 R2 []=E;refine S ?_
  (repeat' (first|refine aq fun K hK=>?_|refine am ?_|(with_reducible refine gR 2 ?_);refine dC 2 ([0],[36],[26,42]) [] (au 0 31) mixed ?_|(with_reducible refine gR 4 ?_);refine dC 4 ([],[],[54,55]) [] (au 0 15) mixed ?_|(refine hK _ _ ?_;clear hK K)|(refine ao ?_ ?_<;>intro hc<;>try exact jz)|refine bf 4 ?_|refine bf 5 ?_|(refine cE (R:=R) (R':=R) (pre:=aK p) (post:=[ax eI 1 inp,rI 0]) (pre':=aK p) (post':=[ax eI 1 inp,rI X.2]) hv rfl jl jl rfl rfl aM rfl jD ?_;try refine S ?_)|(refine mM (args':=[kP R.heap]) S7 (show bc _ ⟨B,aI p inp 0 R _⟩ _ _ from⟨RS.kZ (fun _=>rfl),trivial⟩) rfl jD ?_;try refine S ?_)|(refine⟨rI 0,?_⟩;try refine S ?_)|(refine cn ?_ ?_<;>intro hc<;>try exact jz)|refine ap ?_|exact jI|(clear hK K)))
  subst hE;subst Q9;exact c7 (R':=R2) (pre':=aK p) (post':=[ax eI 1 inp,rI X.2]) rfl hB [.cell 4 50,.tmp 5] aM rfl rfl rfl
 rw[if_neg (fun h=>h c0)];rw[c0]at hv;rw[decide_eq_true rfl]at hv;by_cases c1:X.1.n<0\/16<X.1.n
 ·rw[if_pos c1];have QZ:af prog 251 [.pt 0 0 0 0,rB (decide (0<=X.1.n) && decide (X.1.n<=16)),rI 7] (aI p inp 0 R []) (fun r l=>r=rB false/\l=aI p inp 7 R []):=by
   have e:(decide (0<=X.1.n) && decide (X.1.n<=16))=false:=by simp;omega
   rw[e];exact qu p inp 0 R false 7
  show af _ _ _ _ (fun r l=>r=.bt [rV v0,rB false]/\l=aI p inp 7 R []);suffices key2:∀R2:RS,R2=R->af prog 247 [.pt 0 0 0 0,rI x] (aI p inp 0 R []) (fun r l=>r=.bt [rV v0,rB false]/\l=aI p inp 7 R2 []) from key2 R rfl
  intro R2 Q9;refine aO func247 ntmps247 ?_;generalize hB:ids (aI p inp 0 R [])=B;generalize hE:aI p inp 7 R2 []=E;refine S ?_
  (repeat' (first|refine aq fun K hK=>?_|refine am ?_|(with_reducible refine gR 2 ?_);refine dC 2 ([0],[36],[26,42]) [] (au 0 31) mixed ?_|(with_reducible refine gR 4 ?_);refine dC 4 ([],[],[54,55]) [] (au 0 15) mixed ?_|(refine hK _ _ ?_;clear hK K)|(refine ao ?_ ?_<;>intro hc<;>try exact jz)|refine bf 4 ?_|refine bf 5 ?_|(refine cE (R:=R) (R':=R) (pre:=aK p) (post:=[ax eI 1 inp,rI 0]) (pre':=aK p) (post':=[ax eI 1 inp,rI 0]) hv rfl jl jl rfl rfl aM rfl jD ?_;try refine S ?_)|(refine mM (args':=[kP R.heap]) S7 (show bc _ ⟨B,aI p inp 0 R _⟩ _ _ from⟨RS.kZ (fun _=>rfl),trivial⟩) rfl jD ?_;try refine S ?_)|(refine vC (R:=R) (pre:=aK p) (post:=[ax eI 1 inp,rI 0]) (pre':=aK p) (post':=[ax eI 1 inp,rI 7]) QZ rfl rfl rfl rfl aM rfl jD ?_;try refine S ?_)|(refine⟨rI 0,?_⟩;try refine S ?_)|(refine cn ?_ ?_<;>intro hc<;>try exact jz)|refine ap ?_|exact jI|(clear hK K)))
  subst hE;subst Q9;exact c7 (R':=R2) (pre':=aK p) (post':=[ax eI 1 inp,rI 7]) rfl hB [.cell 4 50,.tmp 5] aM rfl rfl rfl
 rw[if_neg c1];have T9:af prog 251 [.pt 0 0 0 0,rB (decide (0<=X.1.n) && decide (X.1.n<=16)),rI 7] (aI p inp 0 R []) (fun r l=>r=rB true/\l=aI p inp 0 R []):=by
  have e:(decide (0<=X.1.n) && decide (X.1.n<=16))=true:=by simp;omega
  rw[e];exact qu p inp 0 R true 7
 have RF:∀b,decide (fj R.heap+X.1.n+1<=40)=b->af prog 251 [.pt 0 0 0 0,rB (decide (fj R.heap+X.1.n+1<=40)),rI 4] (aI p inp 0 R []) (fun r l=>r=rB b/\l=aI p inp (if b=true then 0 else 4) R []):=fun b e=>by have:=qu p inp 0 R b 4;rw[e];exact this
 by_cases c2:40<fj R.heap+X.1.n+1
 ·rw[if_pos c2];have RF:=RF false (decide_eq_false jB);rw[if_neg jC]at RF;show af _ _ _ _ (fun r l=>r=.bt [rV v0,rB false]/\l=aI p inp 4 R []);suffices key2:∀R2:RS,R2=R->af prog 247 [.pt 0 0 0 0,rI x] (aI p inp 0 R []) (fun r l=>r=.bt [rV v0,rB false]/\l=aI p inp 4 R2 []) from key2 R rfl
  intro R2 Q9;refine aO func247 ntmps247 ?_;generalize hB:ids (aI p inp 0 R [])=B;generalize hE:aI p inp 4 R2 []=E;refine S ?_
  (repeat' (first|refine aq fun K hK=>?_|refine am ?_|(with_reducible refine gR 2 ?_);refine dC 2 ([0],[36],[26,42]) [] (au 0 31) mixed ?_|(with_reducible refine gR 4 ?_);refine dC 4 ([],[],[54,55]) [] (au 0 15) mixed ?_|(refine hK _ _ ?_;clear hK K)|(refine ao ?_ ?_<;>intro hc<;>try exact jz)|refine bf 4 ?_|refine bf 5 ?_|(refine cE (R:=R) (R':=R) (pre:=aK p) (post:=[ax eI 1 inp,rI 0]) (pre':=aK p) (post':=[ax eI 1 inp,rI 0]) hv rfl jl jl rfl rfl aM rfl jD ?_;try refine S ?_)|(refine mM (args':=[kP R.heap]) S7 (show bc _ ⟨B,aI p inp 0 R _⟩ _ _ from⟨RS.kZ (fun _=>rfl),trivial⟩) rfl jD ?_;try refine S ?_)|(refine vC (R:=R) (pre:=aK p) (post:=[ax eI 1 inp,rI 0]) (pre':=aK p) (post':=[ax eI 1 inp,rI 0]) T9 rfl rfl rfl rfl aM rfl jD ?_;try refine S ?_)|(refine vC (R:=R) (pre:=aK p) (post:=[ax eI 1 inp,rI 0]) (pre':=aK p) (post':=[ax eI 1 inp,rI 4]) RF rfl rfl rfl rfl aM rfl jD ?_;try refine S ?_)|(refine cn ?_ ?_<;>intro hc<;>try exact jz)|refine ap ?_|exact jI|(clear hK K)))
  subst hE;subst Q9;exact c7 (R':=R2) (pre':=aK p) (post':=[ax eI 1 inp,rI 4]) rfl hB [.cell 4 50,.tmp 5] aM rfl rfl rfl
 rw[if_neg c2];have RF:=RF true (decide_eq_true jB);rw[if_pos rfl]at RF;obtain⟨m,hm⟩:∃m:Nat,X.1.n=(m:Int):=⟨X.1.n.toNat,jB⟩;rw[hm]at c1 c2 T9 RF ⊢;rw[Int.toNat_natCast];show af _ _ _ _ (fun r l=>r=.bt [rV ⟨4,R.heap.length+1,sE⟩,rB true]/\l=aI p inp 0 (R.grow (List.replicate m 0)) []);refine aO func247 ntmps247 ?_;generalize hB:ids (aI p inp 0 R [])=B;generalize hE:aI p inp 0 (R.grow (List.replicate m 0)) []=E;refine S ?_
 (have W:=hm;repeat' (first|refine aq fun K hK=>?_|refine am ?_|(with_reducible refine gR 2 ?_);refine dC 2 ([0],[36],[26,42]) [] (au 0 31) mixed ?_|(with_reducible refine gR 4 ?_);refine dC 4 ([],[],[54,55]) [] (au 0 15) mixed ?_|(refine hK _ _ ?_;clear hK K)|(refine ao ?_ ?_<;>intro hc<;>try exact jz)|refine Dw (n:=m) (bj 2 R.heap.length) ?_|refine tI 7 ?_|refine bf 4 ?_|refine bf 5 ?_|(refine cE (R:=R) (R':=R) (pre:=aK p) (post:=[ax eI 1 inp,rI 0]) (pre':=aK p) (post':=[ax eI 1 inp,rI 0]) hv rfl jl jl rfl rfl aM rfl jD ?_;try refine S ?_)|(refine mM (args':=[kP R.heap]) S7 (show bc _ ⟨B,aI p inp 0 R _⟩ _ _ from⟨RS.kZ (fun _=>rfl),trivial⟩) rfl jD ?_;try refine S ?_)|(refine vC (R:=R) (pre:=aK p) (post:=[ax eI 1 inp,rI 0]) (pre':=aK p) (post':=[ax eI 1 inp,rI 0]) T9 rfl rfl rfl rfl aM rfl jD ?_;try refine S ?_)|(refine vC (R:=R) (pre:=aK p) (post:=[ax eI 1 inp,rI 0]) (pre':=aK p) (post':=[ax eI 1 inp,rI 0]) RF rfl rfl rfl rfl aM rfl jD ?_;try refine S ?_)|(refine cn ?_ ?_<;>intro hc<;>try exact jz)|refine ap ?_|exact jI|(clear hK K)))
 subst hE;refine xu (R':=R.grow (List.replicate m 0)) (pre':=aK p) (post':=[ax eI 1 inp,rI 0]) (tl:=[(4,.var 50 (bk ⟨4,R.heap.length+1,sE⟩)),(5,.var 50 (bk X.1)),(7,.aG 22 1 [[.rs (bj 2 R.heap.length) m 1 m]])]) rfl (RS.jt (r:=.aG 3 1 (List.replicate m [rI 0])) ?_ (fun k hk=>?_) ?_ (fun i=>?_) aM) hB [.cell 4 50,.tmp 5] aM rfl rfl rfl
 ·simp[RS.c,RS.grow,aK]
 ·by_cases e:k=R.heap.length
  ·subst e;rw[if_pos rfl,oE];simp
  ·rw[if_neg e,lB jB]
 ·rw[List.map_replicate];rfl
 ·simp only[aB,List.cons_append,List.nil_append];have Yj:=gW 2 R.heap.length;repeat' split
  all_goals first
   |rfl
   |omega
section
variable {f:FuncId}{args:PW}{H:Hp}{r0:AV}{B:PZ}{tl:PV}{p:ae}{inp:PY}{tr tr':Int}{R R':RS}
def rE{K:PT}(hc:af prog f args (aI p inp tr R []) fun r l'=>r=r0/\l'=aI p inp tr' R' [])(hH:H=⟨B,aI p inp tr R tl⟩)(k:K r0 ⟨B,aI p inp tr' R' tl⟩)(h1:R.ak.length<=R'.ak.length:=by first|exact Nat.le_refl _|assumption|fail)(h2:R.heap.length<=R'.heap.length:=by first|exact Nat.le_refl _|assumption|fail)
  (hl:low tl:=by exact aM) (ha:aU (fun i=>decide (i=0)) args=true:=by rfl) (h0:aQ prog f=true:=by(simp only[go_sem];done)):dp prog (.raw (.func (.func f) #[] #[])) args H K:=
 cE (pre:=aK p) (post:=[ax eI 1 inp,rI tr]) (pre':=aK p) (post':=[ax eI 1 inp,rI tr']) hc hH h1 h2 rfl rfl hl ha h0 k
def rQ{K:AV->Prop}(hc:af prog f args (aI p inp tr R []) fun r l'=>r=r0/\l'=aI p inp tr R [])(hH:H=⟨B,aI p inp tr R tl⟩)(k:K r0)(hl:low tl:=by exact aM)(ha:aU (fun i=>decide (i=0)) args=true:=by rfl)(h0:aQ prog f=true:=by(simp only[go_sem];done)) :
  ∃r,(dp prog (.raw (.func (.func f) #[] #[])) args H fun r' H'=>r'=r/\H'=H)/\K r:=kS (pre:=aK p) (post:=[ax eI 1 inp,rI tr]) hc hH rfl rfl hl ha h0 k
def kI{fn:Func}{F out:PW}{e:Exit}(hB:ids (aI p inp tr R [])=B)(rs:List ResultVar)(hH:H=⟨B,aI p inp tr' R' tl⟩)(hl:low tl:=by exact aM)(hr:r0.all cV=true:=by rfl)
  (RB:fn.results.toList=rs:=by rfl) (he:e=.normal\/e=.ret:=by first|exact Or.inr rfl|exact Or.inl rfl|fail) (ho:fP prog H F rs=some out:=by first|rfl|(simp(disch:=first|omega|fail) only[go_sem,↓reduceIte,Nat.reduceEqDiff,Nat.reduceLeDiff,Nat.reduceSub,Nat.reduceAdd];rfl)) (hok:gx prog H F rs:=by first|exact jI|(simp(disch:=first|omega|fail) only[go_sem,↓reduceIte,Nat.reduceEqDiff,Nat.reduceLeDiff,Nat.reduceSub,Nat.reduceAdd])) (hv:fZ out=r0:=by first|rfl|(simp only[go_sem];done)):hU prog fn (fun r l=>r=r0/\l=aI p inp tr' R' []) e F H:=
 c7 (pre':=aK p) (post':=[ax eI 1 inp,rI tr']) hH hB rs hl rfl rfl hr RB he ho hok hv
end
def ND(args:List ai)(m:Nat)(h:args.length<=m):fW (List.replicate m (bk v0)) 0 (args.map bk)=(args++List.replicate (m-args.length) v0).map bk:=by unfold fW;rw[List.take_zero,List.nil_append,Nat.zero_add,List.length_map,List.drop_replicate,List.map_append,List.map_replicate]
def G6(h:bY p)(inp:PY)(tr:Int)(R:RS)(hok:R.Ok)(hf:R.nf=R.ak.length)(h8:R.ak.length<=1000)(k:Nat)(hk:k<p.aa.av.length)(args:List ai)(ha:args.length=(nth p.aa.av k).params.length) :
  af prog 57 [.pt 0 0 0 0,rI k,ax bk 3 args] (aI p inp tr R []) (fun r l=>r=.bt []/\l=aI p inp tr (R.push (fk p k args)) []):=by
 obtain⟨f1,f2,f3,f4⟩:=xY h hk ha;have Qh:=h.ok.size;have Sp:=h.ok.aa.av;obtain⟨m,hm⟩:∃m:Nat,nth p.size k=(m:Int):=⟨(nth p.size k).toNat,jB⟩;have QH:(fk p k args).ab=args++List.replicate (m-args.length) v0:=by
  show args++List.replicate _ v0=_;congr 2
  rw[Int.toNat_natCast,hm];omega
 have X8:(fk p k args).ab.length=m:=by rw[<-f2,hm];rfl
 have P':args.length<=m:=by rw[QH]at X8;simp at X8;omega
 have TQ:((args.length:Int)>(m:Int))=False:=eq_false jB;refine aO func57 ntmps57 ?_;generalize hB:ids (aI p inp tr R [])=B;generalize hE:aI p inp tr (R.push (fk p k args)) []=E;refine S ?_
 (have W:=jA hm (jA TQ (hf));repeat' (first|refine aq fun K hK=>?_|refine am ?_|(with_reducible refine gR 2 ?_);refine dC 2 ([],[],[41,43]) [] (au 0 27) mixed ?_|(refine hK _ _ ?_;clear hK K)|(refine ao ?_ ?_<;>intro hc<;>try exact jz)|refine MZ (n:=m) (bj 0 R.ak.length) ?_|refine Gn ?_|refine tI (bj 1 R.ak.length) ?_|refine tI 7 ?_|refine ap ?_|exact jI|(clear hK K)))
 subst hE;have W5:=gW 0 R.ak.length;have QA:=gW 1 R.ak.length;have Q8:bj 1 R.ak.length≠bj 0 R.ak.length:=fun e=>by have:=(nz jB jB e).1;omega
 have Zx:fW (List.replicate m [rI 0,rI 0,rS ⟨#[]⟩]) 0 (List.map bk args)=(fk p k args).ab.map bk:=by rw[QH];exact ND args m P'
 refine xu (R':=R.push (fk p k args)) (pre':=aK p) (post':=[ax eI 1 inp,rI tr]) (tl:=[(7,.aG 87 3 [[.raw (.int .i64 k),.rs (bj 0 R.ak.length) m 3 m,.rs (bj 1 R.ak.length) 1 2 1]])]) rfl (RS.jq hok hf ?_ (fun j hj=>?_) (fun j=>?_) aM) hB [] aM rfl rfl rfl
 ·simp[RS.c,RS.push,hf,aK]
 ·unfold rm;rw[X8];rfl
 ·simp only[aB,qE,Zx,List.cons_append,List.nil_append];repeat' split
  all_goals first
   |rfl
   |omega
def Jy(n:bl)(f:bg):af prog 252 [.agg (eZ f),.pt 4 0 0 0] [(4,.var 78 (bX n))] (fun r l=>r=rB (decide (f.name=n.name))/\l=[(4,.var 78 (bX n))]):=by
 refine aO func252 ntmps252 ?_
 (repeat' (first|refine aq fun K hK=>?_|refine am ?_|(refine hK _ _ ?_;clear hK K)|(refine ao ?_ ?_<;>intro hc<;>try exact jz)|refine bx 5 ?_|refine ap ?_|exact jI|(clear hK K)))
 (refine aY [.tmp 3] ?_;try simp only[go_sem])
def Jm(n:bl)(L:List bg)(k:Nat)(hL:L.length<=1000)(hk:k<L.length)(Qx:(nth L k).name=n.name)(TR:∀i,i<k->(nth L i).name≠n.name) :
  af prog 58 [ax eZ 5 L,.dW 252 [.pt 4 0 0 0]] [(4,.var 78 (bX n))] (fun r l=>r=rI k/\l=[(4,.var 78 (bX n))]):=by
 refine aO func58 ntmps58 ?_
 (repeat' (first|refine aq fun K hK=>?_|refine am ?_|(refine hK _ _ ?_;clear hK K)|(refine ao ?_ ?_<;>intro hc<;>try exact jz)|refine ap ?_|exact jI|(clear hK K)))
 refine de (S:=Nat) [(4,2),(8,11)] (fun i=>i<=k) (fun i=>[(8,rI i)]) (fun i=>⟨[4],[(4,.var 78 (bX n))]⟩) (fun i=>k-i) 0 jB (dc rfl bK) ?_;rintro i hi Kr P9;have Rn:=Jy n (nth L i);by_cases e:i=k
 ·subst e;rw[decide_eq_true Qx]at Rn;refine S ?_
  (repeat' (first|refine aq fun K hK=>?_|refine am ?_|(refine hK _ _ ?_;clear hK K)|(refine ao ?_ ?_<;>intro hc<;>try exact jz)|refine cl Rn ?_|refine ap ?_|exact jI|(clear hK K)))
  (refine aY [.tmp 4] ?_;try simp only[go_sem])
 ·rw[decide_eq_false (TR i jB)]at Rn;refine S ?_
  (repeat' (first|refine aq fun K hK=>?_|refine am ?_|(refine hK _ _ ?_;clear hK K)|(refine ao ?_ ?_<;>intro hc<;>try exact jz)|refine cl Rn ?_|refine ap ?_|exact jI|(clear hK K)))
  refine P9 _ _ (dI (i+1) jB jJ rfl bK)
def DY(h:bY p)(inp:PY)(R:RS)(hd:bo p R)(a:Int)(h0:0<=a)(hl:a.toNat<p.aa.nodes.length)(hk:(aJ p a).kind=21)(R':RS)(tr:Int)(u':(R',tr)=R.call p a) :
  af prog 245 [.pt 0 0 0 0,.agg (bX (aJ p a))] (aI p inp 0 R []) (fun r l=>r=.bt []/\l=aI p inp tr R' []):=by
 have hok:=hd.inv.ok;have Qy:=hok.nf;have h1:=hd.one;have Rt:=hd.inv.ak;have Qi:=gX R.heap;have Rv:=hd.cells;have R4:=hd.full;obtain⟨k,QY⟩:=callee h hl hk;have R5:=(h.ok.aa.shape a.toNat hl);have QG:=R5.1.call hk;have Qd:=R5.2.1;have XU:(nth p.aa.nodes a.toNat).l.length<=3:=QY.Gy;have hv:∀j,j<(nth p.aa.nodes a.toNat).l.length->af prog 248 [.pt 0 0 0 0,rI (nth (nth p.aa.nodes a.toNat).l j)] (aI p inp 0 R []) (fun r l=>r=.bt [rV (R.val p (nth (nth p.aa.nodes a.toNat).l j)).1,rB (decide ((R.val p (nth (nth p.aa.nodes a.toNat).l j)).2=0))]/\l=aI p inp (R.val p (nth (nth p.aa.nodes a.toNat).l j)).2 R []):=fun j hj=>by have hm:=dZ hj;have hb:=Qd _ hm;exact pD h inp 0 R hok h1 jB jB _ hb.1 jB (QG _ hm)
 unfold RS.call at u';simp only[QY.at_]at u';unfold aJ at*;generalize hN:nth p.aa.nodes a.toNat=N at*;generalize hL:N.l=L at*;refine aO func245 ntmps245 ?_;generalize hB:ids (aI p inp 0 R [])=B;generalize hE:aI p inp tr R' []=E;refine S ?_
 (have W:=hL;repeat' (first|refine aq fun K hK=>?_|refine am ?_|(refine hK _ _ ?_;clear hK K)|(refine ao ?_ ?_<;>intro hc<;>try exact jz)|refine bz 4 ?_|refine ap ?_|exact jI|(clear hK K)))
 refine gj (cY.nil 5 4 50 (sz:=3) (by show aB (aI p inp 0 R _) 5=_;rw[RS.rX 5 jB jB];rfl) jC (Or.inl rfl)) ?_
 (refine S ?_;try exact jI)
 have M':=hK;clear hK;have XV:∀k,k<=L.length->((L.take k).map fun x=>(R.val p x).1).length=k:=fun k hk=>by simp;omega
 refine de (S:=Nat) [(4,1),(6,3),(13,17)] (fun k=>k<=L.length/\∀j,j<k->(R.val p (nth L j)).2=0) (fun k=>[(4,.rs 5 k 3 k),(13,rI k)])
  (fun k=>⟨B,aI p inp 0 R [(4,.var 78 (bX N)),(5,.aG 50 3 (((L.take k).map fun x=>(R.val p x).1).map bk))]⟩)
  (fun k=>L.length-k) 0 ⟨jB,fun j hj=>jB⟩ (dc rfl bK) ?_
 rintro q ⟨hq,Vl⟩ Kr P9;have g':=XV q hq;have QF:=yU (p:=p) R L [] q hq Vl;rw[List.nil_append]at QF;by_cases UB:q<L.length
 ·have Vp:=hv q UB;have T6:L.drop q=nth L q::L.drop (q+1):=by rw[gD UB];exact List.drop_eq_getElem_cons UB
  rw[T6,DP]at QF;generalize hX:R.val p (nth L q)=X at*;by_cases Qc:X.2=0
  ·rw[Qc,decide_eq_true rfl]at Vp;refine S ?_
   (have W:=jA hL g';repeat' (first|refine aq fun K hK=>?_|refine am ?_|(refine hK _ _ ?_;clear hK K)|(refine ao ?_ ?_<;>intro hc<;>try exact jz)|refine bf 6 ?_|(refine rE Vp rfl ?_;try refine S ?_)|refine M' _ _ ?_|refine ap ?_|exact jI|(clear hK K)))
   have e6:((L.take (q+1)).map fun x=>(R.val p x).1).map bk=List.map bk (List.map (fun x=>(R.val p x).1) (L.take q))++[bk X.1]:=by rw[qF UB];simp[hX]
   refine P9 _ _ (yc (R0:=R) (R':=R) (pre:=aK p) (post:=[ax eI 1 inp,rI 0]) (pre':=aK p) (post':=[ax eI 1 inp,rI 0]) (q+1) [(4,.var 78 (bX N)),(5,.aG 50 3 (List.map bk (List.map (fun x=>(R.val p x).1) (L.take q))++[bk X.1]))] 6 (.var 50 (bk X.1)) ⟨jB,fun j hj=>?_⟩ (by show L.length-(q+1)<L.length-q;omega) rfl hB ?_ jB rfl rfl rfl (fun i r hi=>?_) (by simp[ids]))
   ·by_cases e:j<q
    ·exact Vl j e
    ·rw[show j=q from jB,hX];exact Qc
   ·show Hp.mk B (R.e _ _ _ [_,(5,Row.aG _ _ _)])=_;rw[e6]
   ·simp only[aB]at hi;repeat' split at hi
    all_goals first
     |(cases hi;exact tB _ _)
     |(cases hi;exact xp (za (iW _) (CG (by simp[go_sem]) (xo _))))
     |cases hi
  ·rw[if_pos Qc]at QF;rw[QF]at u';simp only at u';rw[if_pos Qc]at u';obtain⟨rfl,rfl⟩:=Prod.mk.inj u';rw[decide_eq_false Qc]at Vp;refine S ?_
   (have W:=jA hL g';repeat' (first|refine aq fun K hK=>?_|refine am ?_|(refine hK _ _ ?_;clear hK K)|(refine ao ?_ ?_<;>intro hc<;>try exact jz)|refine bf 6 ?_|(refine rE Vp rfl ?_;try refine S ?_)|refine M' _ _ ?_|refine ap ?_|exact jI|(clear hK K)))
   subst hE;exact kI hB [] rfl
 ·have SC:q=L.length:=jB;subst SC;rw[List.drop_length,List.take_length,G2]at QF;rw[List.take_length]at g';rw[QF]at u';simp only at u';rw[if_neg (fun h=>h rfl)]at u';generalize hA:L.map (fun x=>(R.val p x).1)=args at*;have W7:=Jm N p.aa.av k (by have:=h.ok.aa.av;omega) QY.lt (by have:=QY.name;unfold aJ at this;rw[hN]at this;exact this) (fun i hi=>by
   have:=h.names.one i k hi QY.lt;have e:=QY.name;unfold aJ at e;rw[hN]at e;rwa [e]at this)
  rw[List.take_length,hA];by_cases h8:8<=R.nf
  ·rw[if_pos h8]at u';obtain⟨rfl,rfl⟩:=Prod.mk.inj u';have QZ:af prog 251 [.pt 0 0 0 0,rB (decide ((R'.nf:Int)<8)),rI 3] (aI p inp 0 R' []) (fun r l=>r=rB false/\l=aI p inp 3 R' []):=by
    rw[decide_eq_false jB];exact qu p inp 0 R' false 3
   refine S ?_
   (have W:=jA hL g';repeat' (first|refine aq fun K hK=>?_|refine am ?_|(refine hK _ _ ?_;clear hK K)|(refine ao ?_ ?_<;>intro hc<;>try exact jz)|refine cm (W7) ?_|(refine rE QZ rfl ?_;try refine S ?_)|refine M' _ _ ?_|refine ap ?_|exact jI|(clear hK K)))
   subst hE;exact kI hB [] rfl
  ·rw[if_neg h8]at u';obtain⟨rfl,rfl⟩:=Prod.mk.inj u';have Wn:L.length=args.length:=by rw[<-hA];simp
   have Q0:args.length=(nth p.aa.av k).params.length:=by have:=QY.args;unfold aJ at this;rw[hN,hL]at this;rw[<-Wn];exact this
   have QZ:af prog 251 [.pt 0 0 0 0,rB (decide ((R.nf:Int)<8)),rI 3] (aI p inp 0 R []) (fun r l=>r=rB true/\l=aI p inp 0 R []):=by rw[decide_eq_true jB];exact qu p inp 0 R true 3
   have W8:=G6 h inp 0 R hok R4 jB k QY.lt args Q0;have QC:R.ak.length<=(R.push (fk p k args)).ak.length:=by simp[RS.push]
   have Q4:R.heap.length<=(R.push (fk p k args)).heap.length:=Nat.le_refl _;generalize R.push (fk p k args)=Z at*;have Qw:db (fun i=>[5].contains i) ⟨B,aI p inp 0 R [(4,.var 78 (bX N)),(5,.aG 50 3 (args.map bk))]⟩ (.rs 5 L.length 3 L.length) (ax bk 3 args):=
    db.row args rfl (by show aB (R.e _ _ _ _) 5=_;rw[RS.rX 5 jB jB];rfl) Wn
   (refine S ?_;try exact jI)
   refine FD (R:=R) (R':=R) (t:=141) (pre:=aK p) (post:=[ax eI 1 inp,rI 0]) (t':=141) (pre':=aK p) (post':=[ax eI 1 inp,rI 0]) [5] [(4,ax bk 3 args)] [(4,.var 78 (bX N)),(5,.aG 50 3 (args.map bk))] rfl rfl rfl hB rfl rfl ?_ ?_ ?_
   ·exact⟨.inr (tB _ _),.inl rfl,trivial⟩
   ·simp only[jL,List.foldl_cons,List.foldl_nil,List.set_cons_zero,List.set_cons_succ,bc];repeat' (first|exact jI|exact AB _|exact Qw|exact .same _ rfl|exact .drop _|refine jA ?_ ?_)
   refine S ?_
   (have W:=jA hL g';repeat' (first|refine aq fun K hK=>?_|refine am ?_|(refine hK _ _ ?_;clear hK K)|(refine ao ?_ ?_<;>intro hc<;>try exact jz)|refine cm (W7) ?_|(refine rE QZ rfl ?_;try refine S ?_)|(refine rE W8 rfl ?_;try refine S ?_)|refine M' _ _ ?_|refine ap ?_|exact jI|(clear hK K)))
   subst hE;exact kI hB [] rfl
def L0(h:bY p)(inp:PY)(hn:inp.length<=1000)(R:RS)(hd:bo p R)(Qr:gg p (aW p R.st))(hw:¬ik p R.st (aW p R.st) inp)(R':RS)(tr:Int)(u':(R',tr)=R.right p (aW p R.st) inp) :
  af prog 239 [.pt 0 0 0 0,.agg (bX (aJ p (aW p R.st))),rI (aW p R.st)] (aI p inp 0 R []) (fun r l=>r=.bt []/\l=aI p inp tr R' []):=by
 have hok:=hd.inv.ok;have Qy:=hok.nf;have h1:=hd.one;have Rt:=hd.inv.ak;have Qi:=gX R.heap;have Rv:=hd.cells;have T7:=hd.iS;have Vq:=hd.jd;have J':=hd.fy h;obtain⟨s0,s1,s2,s3,s4,s5⟩:=hd.stmt h;have QH:=J'.sl;have RH:=J'.s0 Qr;rw[hd.iC]at RH;have QN:=hd.gr h;unfold ik at hw;generalize ha:aW p R.st=a at*;obtain⟨x,Qa,SD⟩:=(h.ok.aa.shape a.toNat s1).1.right Qr;have Q7:=(h.ok.aa.shape a.toNat s1).2.1 x (by rw[Qa];simp);have Qc:nth (nth p.aa.nodes a.toNat).l 0=x:=by rw[Qa];rfl
 have Uo:nth (aJ p a).l 0=x:=Qc;have Qj:(nth p.aa.nodes a.toNat).l.length=1:=by rw[Qa];rfl
 have SM:x.toNat<p.aa.nodes.length:=jB;have SE:∀(R1:RS) (v:ai),R1.ak=R.ak->R1.nf=R.nf->R1.jp=R.jp->af prog 140 [.pt 0 0 0 0,rI a,.agg (bk v)] (aI p inp 0 R1 []) (fun r l=>r=.bt []/\l=aI p inp 0 (R1.store p a v) []):=fun R1 v e1 e2 e3=>by have:=r5 p inp 0 a v R1 (sj QN e1 e2 e3) s0 s1 QH (fun _=>by rw[e1,e2];exact RH);rw[if_pos Qr]at this;exact this
 have Rk:=tn p inp 0 R x Q7.1 SM;unfold RS.right at u';simp only[Uo]at u';have SN:(aJ p x).kind=(nth p.aa.nodes x.toNat).kind:=rfl;rw[Uo,SN]at hw;rw[SN]at u';by_cases k21:(nth p.aa.nodes x.toNat).kind=21
 ·rw[if_pos k21]at u';have X9:=DY h inp R hd x Q7.1 SM k21 R' tr u';have P':=uQ R p x;rw[<-u']at P';obtain⟨QC,Q4⟩:=P';clear u' SE;unfold aJ at*;refine aO func239 ntmps239 ?_;generalize hB:ids (aI p inp 0 R [])=B;generalize hE:aI p inp tr R' []=E;refine S ?_
  (have W:=jA Qc (jA Qj (k21));repeat' (first|refine aq fun K hK=>?_|refine am ?_|(with_reducible refine gR 9 ?_);refine dE 9 (au 0 13) mixed ?_|(refine hK _ _ ?_;clear hK K)|(refine ao ?_ ?_<;>intro hc<;>try exact jz)|refine bz 4 ?_|refine bf 5 ?_|refine bf 6 ?_|(refine rE Rk rfl ?_;try refine S ?_)|(refine rE X9 rfl ?_;try refine S ?_)|refine ap ?_|exact jI|(clear hK K)))
  subst hE;exact kI hB [] rfl
 rw[if_neg k21]at u';by_cases k19:(nth p.aa.nodes x.toNat).kind=19
 ·rw[if_pos k19]at u';obtain⟨rfl,rfl⟩:=Prod.mk.inj u';have Ra:R.in_.toNat<inp.length:=by
   have:¬((inp.length:Int)<=R.in_):=fun P'=>hw ⟨Qr,k19,P'⟩
   omega
  have Vj:=SE { R with in_:=R.in_+1 } (vI (nth inp R.in_.toNat)) rfl rfl rfl;have QC:R.ak.length<=(({ R with in_:=R.in_+1 }:RS).store p a (vI (nth inp R.in_.toNat))).ak.length:=by simp[RS.store,RS.br,RS.on,RS.dY]
  have Q4:R.heap.length<=(({ R with in_:=R.in_+1 }:RS).store p a (vI (nth inp R.in_.toNat))).heap.length:=Nat.le_refl _;have YI:=s9 (nth inp R.in_.toNat);generalize ({ R with in_:=R.in_+1 }:RS).store p a (vI (nth inp R.in_.toNat))=Z at*;unfold aJ at*;refine aO func239 ntmps239 ?_;generalize hB:ids (aI p inp 0 R [])=B;generalize hE:aI p inp 0 Z []=E;refine S ?_
  (have W:=jA Qc (jA Qj (k19));repeat' (first|refine aq fun K hK=>?_|refine am ?_|(with_reducible refine gR 9 ?_);refine dE 9 (au 0 13) mixed ?_|(refine hK _ _ ?_;clear hK K)|(refine ao ?_ ?_<;>intro hc<;>try exact jz)|refine bz 4 ?_|refine bf 5 ?_|refine bf 6 ?_|(refine rE Rk rfl ?_;try refine S ?_)|refine cp (YI) ?_|refine cq (YI) ?_|(refine rE (R:={ R with in_:=R.in_+1 }) Vj rfl ?_;try refine S ?_)|refine ap ?_|exact jI|(clear hK K)))
  subst hE;exact kI hB [] rfl
 rw[if_neg k19]at u';by_cases k20:(nth p.aa.nodes x.toNat).kind=20
 ·rw[if_pos k20]at u';have Rn:=NN h inp R hd x Q7.1 SM k20;have Un:=AO R p x;have Zy:nth (aJ p x).l 0=nth (nth p.aa.nodes x.toNat).l 0:=rfl;obtain⟨y,Zz,_⟩:=(h.ok.aa.shape x.toNat SM).1.one (.inr (.inr (.inr (.inr (.inr k20)))));have WA:(nth p.aa.nodes x.toNat).l.length=1:=by rw[Zz];rfl
  rw[Zy]at Rn;have Vj:=SE (R.fresh p x).1 (R.fresh p x).2.1 Un.1 Un.2.1 Un.2.2.1;have ZA:R.ak.length<=(R.fresh p x).1.ak.length:=by rw[Un.1];exact Nat.le_refl _
  have hlh:=Un.2.2.2;have QC:(R.fresh p x).1.ak.length<=((R.fresh p x).1.store p a (R.fresh p x).2.1).ak.length:=by simp[RS.store,RS.br,RS.on,RS.dY]
  have Q4:(R.fresh p x).1.heap.length<=((R.fresh p x).1.store p a (R.fresh p x).2.1).heap.length:=Nat.le_refl _;clear Un;generalize (R.fresh p x).1.store p a (R.fresh p x).2.1=Z at*;generalize R.fresh p x=F at*;obtain⟨F1,F2,F3⟩:=F;simp only at*;by_cases hz:F3=0
  ·rw[if_pos hz]at u';obtain⟨rfl,rfl⟩:=Prod.mk.inj u';rw[hz,decide_eq_true rfl]at Rn;unfold aJ at*;refine aO func239 ntmps239 ?_;generalize hB:ids (aI p inp 0 R [])=B;generalize hE:aI p inp 0 R' []=E;refine S ?_
   (have W:=jA Qc (jA Qj (jA k20 (WA)));repeat' (first|refine aq fun K hK=>?_|refine am ?_|(with_reducible refine gR 9 ?_);refine dE 9 (au 0 13) mixed ?_|(refine hK _ _ ?_;clear hK K)|(refine ao ?_ ?_<;>intro hc<;>try exact jz)|refine bz 4 ?_|refine bf 5 ?_|refine bf 6 ?_|(refine rE Rk rfl ?_;try refine S ?_)|(refine rE (R':=F1) Rn rfl ?_;try refine S ?_)|(refine rE (R:=F1) Vj rfl ?_;try refine S ?_)|refine ap ?_|exact jI|(clear hK K)))
   subst hE;exact kI hB [] rfl
  ·rw[if_neg hz]at u';obtain⟨rfl,rfl⟩:=Prod.mk.inj u';rw[decide_eq_false hz]at Rn;unfold aJ at*;refine aO func239 ntmps239 ?_;generalize hB:ids (aI p inp 0 R [])=B;generalize hE:aI p inp tr R' []=E;refine S ?_
   (have W:=jA Qc (jA Qj (jA k20 (WA)));repeat' (first|refine aq fun K hK=>?_|refine am ?_|(with_reducible refine gR 9 ?_);refine dE 9 (au 0 13) mixed ?_|(refine hK _ _ ?_;clear hK K)|(refine ao ?_ ?_<;>intro hc<;>try exact jz)|refine bz 4 ?_|refine bf 5 ?_|refine bf 6 ?_|(refine rE Rk rfl ?_;try refine S ?_)|(refine rE Rn rfl ?_;try refine S ?_)|refine ap ?_|exact jI|(clear hK K)))
   subst hE;exact kI hB [] rfl
 rw[if_neg k20]at u';have Sz:cr (bJ p.aa.nodes x):=by
  rcases SD with e|e
  ·exact e
  ·unfold bJ at e;omega
 have QB:=pD h inp 0 R hok h1 jB jB x Q7.1 SM Sz;have Vj:=SE R (R.val p x).1 rfl rfl rfl;have QC:R.ak.length<=(R.store p a (R.val p x).1).ak.length:=by simp[RS.store,RS.br,RS.on,RS.dY]
 have Q4:R.heap.length<=(R.store p a (R.val p x).1).heap.length:=Nat.le_refl _;generalize R.store p a (R.val p x).1=Z at*;generalize R.val p x=X at*;by_cases hz:X.2=0
 ·rw[if_pos hz]at u';obtain⟨rfl,rfl⟩:=Prod.mk.inj u';rw[hz,decide_eq_true rfl]at QB;have e21:=eq_false k21;have e19:=eq_false k19;have e20:=eq_false k20;unfold aJ at*;refine aO func239 ntmps239 ?_;generalize hB:ids (aI p inp 0 R [])=B;generalize hE:aI p inp 0 R' []=E;refine S ?_
  (have W:=jA Qc (jA Qj (jA e21 (jA e19 (e20))));repeat' (first|refine aq fun K hK=>?_|refine am ?_|(with_reducible refine gR 9 ?_);refine dE 9 (au 0 13) mixed ?_|(refine hK _ _ ?_;clear hK K)|(refine ao ?_ ?_<;>intro hc<;>try exact jz)|refine bz 4 ?_|refine bf 5 ?_|refine bf 6 ?_|(refine rE Rk rfl ?_;try refine S ?_)|(refine rE QB rfl ?_;try refine S ?_)|(refine rE Vj rfl ?_;try refine S ?_)|refine ap ?_|exact jI|(clear hK K)))
  subst hE;exact kI hB [] rfl
 ·rw[if_neg hz]at u';obtain⟨rfl,rfl⟩:=Prod.mk.inj u';rw[decide_eq_false hz]at QB;have e21:=eq_false k21;have e19:=eq_false k19;have e20:=eq_false k20;unfold aJ at*;suffices key2:∀R2:RS,R2=R'->af prog 239 [.pt 0 0 0 0,.agg (bX (nth p.aa.nodes a.toNat)),rI a] (aI p inp 0 R' []) (fun r l=>r=.bt []/\l=aI p inp X.2 R2 []) from key2 R' rfl
  intro R2 Q9;refine aO func239 ntmps239 ?_;generalize hB:ids (aI p inp 0 R' [])=B;generalize hE:aI p inp X.2 R2 []=E;refine S ?_
  (have W:=jA Qc (jA Qj (jA e21 (jA e19 (e20))));repeat' (first|refine aq fun K hK=>?_|refine am ?_|(with_reducible refine gR 9 ?_);refine dE 9 (au 0 13) mixed ?_|(refine hK _ _ ?_;clear hK K)|(refine ao ?_ ?_<;>intro hc<;>try exact jz)|refine bz 4 ?_|refine bf 5 ?_|refine bf 6 ?_|(refine rE Rk rfl ?_;try refine S ?_)|(refine rE QB rfl ?_;try refine S ?_)|refine ap ?_|exact jI|(clear hK K)))
  subst hE;subst Q9;exact kI hB [] rfl
section
variable {f:FuncId}{args:PW}{H:Hp}{r0:AV}{B:PZ}{tl:PV}{p:ae}{inp:PY}{tr tr':Int}{R R':RS}
variable{K:PT}
def rN(hc:af prog f (.pt 0 0 0 0::args) (aI p inp tr R []) fun r l'=>r=r0/\l'=aI p inp tr' R' [])(hH:H=⟨B,aI p inp tr R tl⟩)(k:K r0 ⟨B,aI p inp tr' R' tl⟩)(h1:R.ak.length<=R'.ak.length:=by first|exact Nat.le_refl _|assumption|fail)(h2:R.heap.length<=R'.heap.length:=by first|exact Nat.le_refl _|assumption|fail)
  (hl:low tl:=by exact aM) (ha:aU (fun i=>decide (i=0)) args=true:=by rfl) (h0:aQ prog f=true:=by(simp only[go_sem];done)):dp prog (.bd f [.pt 0 0 0 0]) args H K:=by
 have:=rE (args:=.pt 0 0 0 0::args) hc hH k h1 h2 hl (by show(true && _)=true;rw[ha];rfl) h0;unfold dp at this ⊢;simp only[uD,List.append_nil,Array.toList,List.map_nil,List.nil_append]at this ⊢;exact this
abbrev oq:Row:=.var 139 [.pt 0 0 0 0]
def rC(hc:af prog f (args++[.pt 4 0 0 0]) (aI p inp tr R [(4,oq)]) fun r l'=>r=r0/\l'=aI p inp tr' R' [(4,oq)])(hH:H=⟨B,aI p inp tr R ((4,oq)::tl)⟩)(k:K r0 ⟨B,aI p inp tr' R' ((4,oq)::tl)⟩)(h1:R.ak.length<=R'.ak.length:=by first|exact Nat.le_refl _|assumption|fail)(h2:R.heap.length<=R'.heap.length:=by first|exact Nat.le_refl _|assumption|fail)
  (hl:low tl:=by exact aM) (h4:(ids tl).all (fun i=>!(i == 4))=true:=by rfl) (ha:aU (fun i=>decide (i=0)) args=true:=by rfl) (h0:aQ prog f=true:=by(simp only[go_sem];done)):dp prog (.dW f [.pt 4 0 0 0]) args H K:=
 Jj (pre:=aK p) (post:=[ax eI 1 inp,rI tr]) (pre':=aK p) (post':=[ax eI 1 inp,rI tr']) hc hH h1 h2 rfl rfl rfl hl h4 ha h0 k
end
def L9(h:bY p)(inp:PY)(R:RS)(hd:bo p R)(a:Int)(b:Int)(hl:a.toNat<p.aa.nodes.length)(hk:(aJ p a).kind=13)(R':RS)(tr:Int)(u':(R',tr)=R.call p (nth (aJ p a).l 0)) :
  af prog 244 [.agg (bX (aJ p a)),rI b,.pt 4 0 0 0] (aI p inp 0 R [(4,oq)]) (fun r l=>r=.bt []/\l=aI p inp tr R' [(4,oq)]):=by
 obtain⟨x,Qa,hx⟩:=(h.ok.aa.shape a.toNat hl).1.oN hk;have Q7:=(h.ok.aa.shape a.toNat hl).2.1 x (by rw[Qa];simp);have Qa:(aJ p a).l=[x]:=Qa;have Qc:nth (aJ p a).l 0=x:=by rw[Qa];rfl
 have Qj:(aJ p a).l.length=1:=by rw[Qa];rfl
 rw[Qc]at u';have Rk:=tn p inp 0 R x Q7.1 jB;have X9:=DY h inp R hd x Q7.1 jB hx R' tr u';have P':=uQ R p x;rw[<-u']at P';obtain⟨QC,Q4⟩:=P';clear u';generalize aJ p x=X at*;generalize aJ p a=N at*;refine aO func244 ntmps244 ?_;generalize hB:ids (aI p inp 0 R [(4,oq)])=B;generalize hE:aI p inp tr R' [(4,oq)]=E;refine S ?_
 (have W:=jA Qc Qj;repeat' (first|refine aq fun K hK=>?_|refine am ?_|(with_reducible refine gR 1 ?_);refine dC 1 ([],[11],[]) [] (au 0 8) mixed ?_|(refine hK _ _ ?_;clear hK K)|(refine ao ?_ ?_<;>intro hc<;>try exact jz)|refine bz 5 ?_|(refine rQ Rk rfl ?_;try refine S ?_)|(refine rE X9 rfl ?_;try refine S ?_)|refine ap ?_|exact jI|(clear hK K)))
 subst hE;exact Jh (R':=R') (x:=oq) (x':=oq) (pre':=aK p) (post':=[ax eI 1 inp,rI tr]) rfl hB [] aM rfl rfl rfl rfl rfl
def HQ{v:ai}(h:v.ty=2)(hm:fT v=true):v.n=0\/v.n=1:=by unfold fT at hm;rw[h]at hm;simp at hm;omega
def G5(h:bY p)(R:RS){a:Int}(hl:a.toNat<p.aa.nodes.length)(hk:(aJ p a).kind=15\/(aJ p a).kind=16)(x:Int)(hx:(R.val p x).2=0)(e:x=nth (aJ p a).l 0):(R.val p x).1.n=0\/(R.val p x).1.n=1:=by
 have TZ:=h.ok.aa.shape a.toNat hl;have Sy:=(h.ok.ty a.toNat jB hl).cond hk;have Vu:0<=x/\x.toNat<p.aa.nodes.length/\cr (bJ p.aa.nodes x):=by
  rcases hk with hk|hk
  ·obtain⟨y,z,hy,hz,Qa⟩:=TZ.1.jM hk;have Ya:y=x:=by rw[e];unfold aJ;rcases Qa with Qa|⟨d,Qa,_⟩<;>(rw[Qa];rfl)
   subst Ya;have:=TZ.2.1 y (by rcases Qa with Qa|⟨d,Qa,_⟩<;>(rw[Qa];simp));exact⟨this.1,jB,hy⟩
  ·obtain⟨y,z,Qa,hy,hz⟩:=TZ.1.dH hk;have Ya:y=x:=by rw[e];unfold aJ;rw[Qa];rfl
   subst Ya;have:=TZ.2.1 y (by rw[Qa];simp);exact⟨this.1,jB,hy⟩
 have ht:=su (HO h R Vu.1 Vu.2.1 Vu.2.2) hx;have e2:nth p.types x.toNat=2:=by rw[e];exact Sy
 exact HQ (by rw[ht.1,e2]) ht.2
def J9(R:RS)(p:ae)(a:Int)(inp:PY):R.ak.length<=(R.bF p a inp).1.ak.length/\R.heap.length<=(R.bF p a inp).1.heap.length:=⟨(vY R p a inp).ak,(vY R p a inp).heap⟩
def Ik(h:bY p)(inp:PY)(hn:inp.length<=1000)(R:RS)(hd:bo p R)(hw:¬ik p R.st (aW p R.st) inp)(Sb:∀x:Int,0<=x->x.toNat<p.aa.nodes.length->cr (bJ p.aa.nodes x)->bn (R.val p x).1.n)(R':RS)(tr:Int)(u':(R',tr)=R.bF p (aW p R.st) inp) :
  af prog 233 [.pt 0 0 0 0,rI (aW p R.st)] (aI p inp 0 R []) (fun r l=>r=.bt []/\l=aI p inp tr R' []):=by
 obtain⟨s0,s1,s2,_⟩:=hd.stmt h;have s2:10<=(aJ p (aW p R.st)).kind/\(aJ p (aW p R.st)).kind<=17:=s2;have Rk:=tn p inp 0 R (aW p R.st) s0 s1;have P':R.ak.length<=R'.ak.length/\R.heap.length<=R'.heap.length:=by have:=J9 R p (aW p R.st) inp;rw[<-u']at this;exact this
 obtain⟨QC,Q4⟩:=P';by_cases k1:(aJ p (aW p R.st)).kind=10\/(aJ p (aW p R.st)).kind=11
 ·have QM:=L0 h inp hn R hd k1 hw R' tr (by rw[u'];unfold RS.bF;simp only;rw[if_pos k1]);clear u' hd hw Sb;generalize aW p R.st=a at*;unfold aJ at*;rcases k1 with O'|O'
  ·refine aO func233 ntmps233 ?_;generalize hB:ids (aI p inp 0 R [])=B;generalize hE:aI p inp tr R' []=E;refine S ?_
   (have W:=O';repeat' (first|refine aq fun K hK=>?_|refine am ?_|(refine hK _ _ ?_;clear hK K)|(refine ao ?_ ?_<;>intro hc<;>try exact jz)|refine bz 4 ?_|refine bf 5 ?_|refine o5 6 ?_|refine dk (vs:=[]) [] cQ ?_|refine dk (vs:=[.bd 239 [.pt 0 0 0 0]]) [10] cQ ?_|refine dk (vs:=[.bd 239 [.pt 0 0 0 0],.bd 239 [.pt 0 0 0 0]]) [10,11] cQ ?_|refine dk (vs:=[.bd 239 [.pt 0 0 0 0],.bd 239 [.pt 0 0 0 0],.bd 240 [.pt 0 0 0 0]]) [10,11,12] cQ ?_|refine dk (vs:=[.bd 239 [.pt 0 0 0 0],.bd 239 [.pt 0 0 0 0],.bd 240 [.pt 0 0 0 0],.bd 241 [.pt 0 0 0 0]]) [10,11,12,14] cQ ?_|refine dk (vs:=[.bd 239 [.pt 0 0 0 0],.bd 239 [.pt 0 0 0 0],.bd 240 [.pt 0 0 0 0],.bd 241 [.pt 0 0 0 0],.bd 242 [.pt 0 0 0 0]]) [10,11,12,14,15] cQ ?_|refine dk (vs:=[.bd 239 [.pt 0 0 0 0],.bd 239 [.pt 0 0 0 0],.bd 240 [.pt 0 0 0 0],.bd 241 [.pt 0 0 0 0],.bd 242 [.pt 0 0 0 0],.bd 242 [.pt 0 0 0 0]]) [10,11,12,14,15,16] cQ ?_|refine dk (vs:=[.bd 239 [.pt 0 0 0 0],.bd 239 [.pt 0 0 0 0],.bd 240 [.pt 0 0 0 0],.bd 241 [.pt 0 0 0 0],.bd 242 [.pt 0 0 0 0],.bd 242 [.pt 0 0 0 0],.bd 243 [.pt 0 0 0 0]]) [10,11,12,14,15,16,17] cQ ?_|(refine pI (c:=false) (n:=10) (vs:=[.bd 239 [.pt 0 0 0 0],.bd 239 [.pt 0 0 0 0],.bd 240 [.pt 0 0 0 0],.bd 241 [.pt 0 0 0 0],.bd 242 [.pt 0 0 0 0],.bd 242 [.pt 0 0 0 0],.bd 243 [.pt 0 0 0 0],.dW 244 [.pt 4 0 0 0]]) [10,11,12,14,15,16,17,13] .nilFunc (.bd 239 [.pt 0 0 0 0]) cQ jG rfl ?_)|(refine rE Rk rfl ?_;try refine S ?_)|(refine rN QM rfl ?_;try refine S ?_)|refine ap ?_|exact jI|(clear hK K)))
   subst hE;exact kI hB [] rfl
  ·refine aO func233 ntmps233 ?_;generalize hB:ids (aI p inp 0 R [])=B;generalize hE:aI p inp tr R' []=E;refine S ?_
   (have W:=O';repeat' (first|refine aq fun K hK=>?_|refine am ?_|(refine hK _ _ ?_;clear hK K)|(refine ao ?_ ?_<;>intro hc<;>try exact jz)|refine bz 4 ?_|refine bf 5 ?_|refine o5 6 ?_|refine dk (vs:=[]) [] cQ ?_|refine dk (vs:=[.bd 239 [.pt 0 0 0 0]]) [10] cQ ?_|refine dk (vs:=[.bd 239 [.pt 0 0 0 0],.bd 239 [.pt 0 0 0 0]]) [10,11] cQ ?_|refine dk (vs:=[.bd 239 [.pt 0 0 0 0],.bd 239 [.pt 0 0 0 0],.bd 240 [.pt 0 0 0 0]]) [10,11,12] cQ ?_|refine dk (vs:=[.bd 239 [.pt 0 0 0 0],.bd 239 [.pt 0 0 0 0],.bd 240 [.pt 0 0 0 0],.bd 241 [.pt 0 0 0 0]]) [10,11,12,14] cQ ?_|refine dk (vs:=[.bd 239 [.pt 0 0 0 0],.bd 239 [.pt 0 0 0 0],.bd 240 [.pt 0 0 0 0],.bd 241 [.pt 0 0 0 0],.bd 242 [.pt 0 0 0 0]]) [10,11,12,14,15] cQ ?_|refine dk (vs:=[.bd 239 [.pt 0 0 0 0],.bd 239 [.pt 0 0 0 0],.bd 240 [.pt 0 0 0 0],.bd 241 [.pt 0 0 0 0],.bd 242 [.pt 0 0 0 0],.bd 242 [.pt 0 0 0 0]]) [10,11,12,14,15,16] cQ ?_|refine dk (vs:=[.bd 239 [.pt 0 0 0 0],.bd 239 [.pt 0 0 0 0],.bd 240 [.pt 0 0 0 0],.bd 241 [.pt 0 0 0 0],.bd 242 [.pt 0 0 0 0],.bd 242 [.pt 0 0 0 0],.bd 243 [.pt 0 0 0 0]]) [10,11,12,14,15,16,17] cQ ?_|(refine pI (c:=false) (n:=11) (vs:=[.bd 239 [.pt 0 0 0 0],.bd 239 [.pt 0 0 0 0],.bd 240 [.pt 0 0 0 0],.bd 241 [.pt 0 0 0 0],.bd 242 [.pt 0 0 0 0],.bd 242 [.pt 0 0 0 0],.bd 243 [.pt 0 0 0 0],.dW 244 [.pt 4 0 0 0]]) [10,11,12,14,15,16,17,13] .nilFunc (.bd 239 [.pt 0 0 0 0]) cQ jG rfl ?_)|(refine rE Rk rfl ?_;try refine S ?_)|(refine rN QM rfl ?_;try refine S ?_)|refine ap ?_|exact jI|(clear hK K)))
   subst hE;exact kI hB [] rfl
 by_cases k13:(aJ p (aW p R.st)).kind=13
 ·have QM:=L9 h inp R hd (aW p R.st) (aW p R.st) s1 k13 R' tr (by rw[u'];unfold RS.bF;simp only;rw[if_neg k1,if_pos k13]);clear u' hd hw Sb;generalize aW p R.st=a at*;unfold aJ at*;have O':(nth p.aa.nodes a.toNat).kind=13:=by assumption
  refine aO func233 ntmps233 ?_;generalize hB:ids (aI p inp 0 R [])=B;generalize hE:aI p inp tr R' []=E;refine S ?_
  (have W:=O';repeat' (first|refine aq fun K hK=>?_|refine am ?_|(refine hK _ _ ?_;clear hK K)|(refine ao ?_ ?_<;>intro hc<;>try exact jz)|refine bz 4 ?_|refine bf 5 ?_|refine o5 6 ?_|refine dk (vs:=[]) [] cQ ?_|refine dk (vs:=[.bd 239 [.pt 0 0 0 0]]) [10] cQ ?_|refine dk (vs:=[.bd 239 [.pt 0 0 0 0],.bd 239 [.pt 0 0 0 0]]) [10,11] cQ ?_|refine dk (vs:=[.bd 239 [.pt 0 0 0 0],.bd 239 [.pt 0 0 0 0],.bd 240 [.pt 0 0 0 0]]) [10,11,12] cQ ?_|refine dk (vs:=[.bd 239 [.pt 0 0 0 0],.bd 239 [.pt 0 0 0 0],.bd 240 [.pt 0 0 0 0],.bd 241 [.pt 0 0 0 0]]) [10,11,12,14] cQ ?_|refine dk (vs:=[.bd 239 [.pt 0 0 0 0],.bd 239 [.pt 0 0 0 0],.bd 240 [.pt 0 0 0 0],.bd 241 [.pt 0 0 0 0],.bd 242 [.pt 0 0 0 0]]) [10,11,12,14,15] cQ ?_|refine dk (vs:=[.bd 239 [.pt 0 0 0 0],.bd 239 [.pt 0 0 0 0],.bd 240 [.pt 0 0 0 0],.bd 241 [.pt 0 0 0 0],.bd 242 [.pt 0 0 0 0],.bd 242 [.pt 0 0 0 0]]) [10,11,12,14,15,16] cQ ?_|refine dk (vs:=[.bd 239 [.pt 0 0 0 0],.bd 239 [.pt 0 0 0 0],.bd 240 [.pt 0 0 0 0],.bd 241 [.pt 0 0 0 0],.bd 242 [.pt 0 0 0 0],.bd 242 [.pt 0 0 0 0],.bd 243 [.pt 0 0 0 0]]) [10,11,12,14,15,16,17] cQ ?_|(refine pI (c:=false) (n:=13) (vs:=[.bd 239 [.pt 0 0 0 0],.bd 239 [.pt 0 0 0 0],.bd 240 [.pt 0 0 0 0],.bd 241 [.pt 0 0 0 0],.bd 242 [.pt 0 0 0 0],.bd 242 [.pt 0 0 0 0],.bd 243 [.pt 0 0 0 0],.dW 244 [.pt 4 0 0 0]]) [10,11,12,14,15,16,17,13] .nilFunc (.dW 244 [.pt 4 0 0 0]) cQ jG rfl ?_)|(refine rE Rk rfl ?_;try refine S ?_)|(refine rC QM rfl ?_;try refine S ?_)|refine ap ?_|exact jI|(clear hK K)))
  subst hE;exact kI hB [] rfl
 by_cases k12:(aJ p (aW p R.st)).kind=12
 ·have QM:=OR h inp R hd k12;rw[show R.put p (aW p R.st)=(R',tr) by rw[u'];unfold RS.bF;simp only;rw[if_neg k1,if_neg k13,if_pos k12]]at QM;simp only at QM;clear u' hd hw Sb;generalize aW p R.st=a at*;unfold aJ at*;have O':(nth p.aa.nodes a.toNat).kind=12:=by assumption
  refine aO func233 ntmps233 ?_;generalize hB:ids (aI p inp 0 R [])=B;generalize hE:aI p inp tr R' []=E;refine S ?_
  (have W:=O';repeat' (first|refine aq fun K hK=>?_|refine am ?_|(refine hK _ _ ?_;clear hK K)|(refine ao ?_ ?_<;>intro hc<;>try exact jz)|refine bz 4 ?_|refine bf 5 ?_|refine o5 6 ?_|refine dk (vs:=[]) [] cQ ?_|refine dk (vs:=[.bd 239 [.pt 0 0 0 0]]) [10] cQ ?_|refine dk (vs:=[.bd 239 [.pt 0 0 0 0],.bd 239 [.pt 0 0 0 0]]) [10,11] cQ ?_|refine dk (vs:=[.bd 239 [.pt 0 0 0 0],.bd 239 [.pt 0 0 0 0],.bd 240 [.pt 0 0 0 0]]) [10,11,12] cQ ?_|refine dk (vs:=[.bd 239 [.pt 0 0 0 0],.bd 239 [.pt 0 0 0 0],.bd 240 [.pt 0 0 0 0],.bd 241 [.pt 0 0 0 0]]) [10,11,12,14] cQ ?_|refine dk (vs:=[.bd 239 [.pt 0 0 0 0],.bd 239 [.pt 0 0 0 0],.bd 240 [.pt 0 0 0 0],.bd 241 [.pt 0 0 0 0],.bd 242 [.pt 0 0 0 0]]) [10,11,12,14,15] cQ ?_|refine dk (vs:=[.bd 239 [.pt 0 0 0 0],.bd 239 [.pt 0 0 0 0],.bd 240 [.pt 0 0 0 0],.bd 241 [.pt 0 0 0 0],.bd 242 [.pt 0 0 0 0],.bd 242 [.pt 0 0 0 0]]) [10,11,12,14,15,16] cQ ?_|refine dk (vs:=[.bd 239 [.pt 0 0 0 0],.bd 239 [.pt 0 0 0 0],.bd 240 [.pt 0 0 0 0],.bd 241 [.pt 0 0 0 0],.bd 242 [.pt 0 0 0 0],.bd 242 [.pt 0 0 0 0],.bd 243 [.pt 0 0 0 0]]) [10,11,12,14,15,16,17] cQ ?_|(refine pI (c:=false) (n:=12) (vs:=[.bd 239 [.pt 0 0 0 0],.bd 239 [.pt 0 0 0 0],.bd 240 [.pt 0 0 0 0],.bd 241 [.pt 0 0 0 0],.bd 242 [.pt 0 0 0 0],.bd 242 [.pt 0 0 0 0],.bd 243 [.pt 0 0 0 0],.dW 244 [.pt 4 0 0 0]]) [10,11,12,14,15,16,17,13] .nilFunc (.bd 240 [.pt 0 0 0 0]) cQ jG rfl ?_)|(refine rE Rk rfl ?_;try refine S ?_)|(refine rN QM rfl ?_;try refine S ?_)|refine ap ?_|exact jI|(clear hK K)))
  subst hE;exact kI hB [] rfl
 by_cases k17:(aJ p (aW p R.st)).kind=17
 ·have QM:=La h inp R hd k17 R' tr u';clear u' hd hw Sb;generalize aW p R.st=a at*;unfold aJ at*;have O':(nth p.aa.nodes a.toNat).kind=17:=by assumption
  refine aO func233 ntmps233 ?_;generalize hB:ids (aI p inp 0 R [])=B;generalize hE:aI p inp tr R' []=E;refine S ?_
  (have W:=O';repeat' (first|refine aq fun K hK=>?_|refine am ?_|(refine hK _ _ ?_;clear hK K)|(refine ao ?_ ?_<;>intro hc<;>try exact jz)|refine bz 4 ?_|refine bf 5 ?_|refine o5 6 ?_|refine dk (vs:=[]) [] cQ ?_|refine dk (vs:=[.bd 239 [.pt 0 0 0 0]]) [10] cQ ?_|refine dk (vs:=[.bd 239 [.pt 0 0 0 0],.bd 239 [.pt 0 0 0 0]]) [10,11] cQ ?_|refine dk (vs:=[.bd 239 [.pt 0 0 0 0],.bd 239 [.pt 0 0 0 0],.bd 240 [.pt 0 0 0 0]]) [10,11,12] cQ ?_|refine dk (vs:=[.bd 239 [.pt 0 0 0 0],.bd 239 [.pt 0 0 0 0],.bd 240 [.pt 0 0 0 0],.bd 241 [.pt 0 0 0 0]]) [10,11,12,14] cQ ?_|refine dk (vs:=[.bd 239 [.pt 0 0 0 0],.bd 239 [.pt 0 0 0 0],.bd 240 [.pt 0 0 0 0],.bd 241 [.pt 0 0 0 0],.bd 242 [.pt 0 0 0 0]]) [10,11,12,14,15] cQ ?_|refine dk (vs:=[.bd 239 [.pt 0 0 0 0],.bd 239 [.pt 0 0 0 0],.bd 240 [.pt 0 0 0 0],.bd 241 [.pt 0 0 0 0],.bd 242 [.pt 0 0 0 0],.bd 242 [.pt 0 0 0 0]]) [10,11,12,14,15,16] cQ ?_|refine dk (vs:=[.bd 239 [.pt 0 0 0 0],.bd 239 [.pt 0 0 0 0],.bd 240 [.pt 0 0 0 0],.bd 241 [.pt 0 0 0 0],.bd 242 [.pt 0 0 0 0],.bd 242 [.pt 0 0 0 0],.bd 243 [.pt 0 0 0 0]]) [10,11,12,14,15,16,17] cQ ?_|(refine pI (c:=false) (n:=17) (vs:=[.bd 239 [.pt 0 0 0 0],.bd 239 [.pt 0 0 0 0],.bd 240 [.pt 0 0 0 0],.bd 241 [.pt 0 0 0 0],.bd 242 [.pt 0 0 0 0],.bd 242 [.pt 0 0 0 0],.bd 243 [.pt 0 0 0 0],.dW 244 [.pt 4 0 0 0]]) [10,11,12,14,15,16,17,13] .nilFunc (.bd 243 [.pt 0 0 0 0]) cQ jG rfl ?_)|(refine rE Rk rfl ?_;try refine S ?_)|(refine rN QM rfl ?_;try refine S ?_)|refine ap ?_|exact jI|(clear hK K)))
  subst hE;exact kI hB [] rfl
 by_cases k14:(aJ p (aW p R.st)).kind=14
 ·have QM:=Mf h inp R hd k14 Sb R' tr u';clear u' hd hw Sb;generalize aW p R.st=a at*;unfold aJ at*;have O':(nth p.aa.nodes a.toNat).kind=14:=by assumption
  refine aO func233 ntmps233 ?_;generalize hB:ids (aI p inp 0 R [])=B;generalize hE:aI p inp tr R' []=E;refine S ?_
  (have W:=O';repeat' (first|refine aq fun K hK=>?_|refine am ?_|(refine hK _ _ ?_;clear hK K)|(refine ao ?_ ?_<;>intro hc<;>try exact jz)|refine bz 4 ?_|refine bf 5 ?_|refine o5 6 ?_|refine dk (vs:=[]) [] cQ ?_|refine dk (vs:=[.bd 239 [.pt 0 0 0 0]]) [10] cQ ?_|refine dk (vs:=[.bd 239 [.pt 0 0 0 0],.bd 239 [.pt 0 0 0 0]]) [10,11] cQ ?_|refine dk (vs:=[.bd 239 [.pt 0 0 0 0],.bd 239 [.pt 0 0 0 0],.bd 240 [.pt 0 0 0 0]]) [10,11,12] cQ ?_|refine dk (vs:=[.bd 239 [.pt 0 0 0 0],.bd 239 [.pt 0 0 0 0],.bd 240 [.pt 0 0 0 0],.bd 241 [.pt 0 0 0 0]]) [10,11,12,14] cQ ?_|refine dk (vs:=[.bd 239 [.pt 0 0 0 0],.bd 239 [.pt 0 0 0 0],.bd 240 [.pt 0 0 0 0],.bd 241 [.pt 0 0 0 0],.bd 242 [.pt 0 0 0 0]]) [10,11,12,14,15] cQ ?_|refine dk (vs:=[.bd 239 [.pt 0 0 0 0],.bd 239 [.pt 0 0 0 0],.bd 240 [.pt 0 0 0 0],.bd 241 [.pt 0 0 0 0],.bd 242 [.pt 0 0 0 0],.bd 242 [.pt 0 0 0 0]]) [10,11,12,14,15,16] cQ ?_|refine dk (vs:=[.bd 239 [.pt 0 0 0 0],.bd 239 [.pt 0 0 0 0],.bd 240 [.pt 0 0 0 0],.bd 241 [.pt 0 0 0 0],.bd 242 [.pt 0 0 0 0],.bd 242 [.pt 0 0 0 0],.bd 243 [.pt 0 0 0 0]]) [10,11,12,14,15,16,17] cQ ?_|(refine pI (c:=false) (n:=14) (vs:=[.bd 239 [.pt 0 0 0 0],.bd 239 [.pt 0 0 0 0],.bd 240 [.pt 0 0 0 0],.bd 241 [.pt 0 0 0 0],.bd 242 [.pt 0 0 0 0],.bd 242 [.pt 0 0 0 0],.bd 243 [.pt 0 0 0 0],.dW 244 [.pt 4 0 0 0]]) [10,11,12,14,15,16,17,13] .nilFunc (.bd 241 [.pt 0 0 0 0]) cQ jG rfl ?_)|(refine rE Rk rfl ?_;try refine S ?_)|(refine rN QM rfl ?_;try refine S ?_)|refine ap ?_|exact jI|(clear hK K)))
  subst hE;exact kI hB [] rfl
 by_cases k15:(aJ p (aW p R.st)).kind=15
 ·have QM:=Jg h inp R hd k15 (fun x hx e=>G5 h R s1 (.inl k15) x hx e) R' tr u';clear u' hd hw Sb;generalize aW p R.st=a at*;unfold aJ at*;have O':(nth p.aa.nodes a.toNat).kind=15:=by assumption
  refine aO func233 ntmps233 ?_;generalize hB:ids (aI p inp 0 R [])=B;generalize hE:aI p inp tr R' []=E;refine S ?_
  (have W:=O';repeat' (first|refine aq fun K hK=>?_|refine am ?_|(refine hK _ _ ?_;clear hK K)|(refine ao ?_ ?_<;>intro hc<;>try exact jz)|refine bz 4 ?_|refine bf 5 ?_|refine o5 6 ?_|refine dk (vs:=[]) [] cQ ?_|refine dk (vs:=[.bd 239 [.pt 0 0 0 0]]) [10] cQ ?_|refine dk (vs:=[.bd 239 [.pt 0 0 0 0],.bd 239 [.pt 0 0 0 0]]) [10,11] cQ ?_|refine dk (vs:=[.bd 239 [.pt 0 0 0 0],.bd 239 [.pt 0 0 0 0],.bd 240 [.pt 0 0 0 0]]) [10,11,12] cQ ?_|refine dk (vs:=[.bd 239 [.pt 0 0 0 0],.bd 239 [.pt 0 0 0 0],.bd 240 [.pt 0 0 0 0],.bd 241 [.pt 0 0 0 0]]) [10,11,12,14] cQ ?_|refine dk (vs:=[.bd 239 [.pt 0 0 0 0],.bd 239 [.pt 0 0 0 0],.bd 240 [.pt 0 0 0 0],.bd 241 [.pt 0 0 0 0],.bd 242 [.pt 0 0 0 0]]) [10,11,12,14,15] cQ ?_|refine dk (vs:=[.bd 239 [.pt 0 0 0 0],.bd 239 [.pt 0 0 0 0],.bd 240 [.pt 0 0 0 0],.bd 241 [.pt 0 0 0 0],.bd 242 [.pt 0 0 0 0],.bd 242 [.pt 0 0 0 0]]) [10,11,12,14,15,16] cQ ?_|refine dk (vs:=[.bd 239 [.pt 0 0 0 0],.bd 239 [.pt 0 0 0 0],.bd 240 [.pt 0 0 0 0],.bd 241 [.pt 0 0 0 0],.bd 242 [.pt 0 0 0 0],.bd 242 [.pt 0 0 0 0],.bd 243 [.pt 0 0 0 0]]) [10,11,12,14,15,16,17] cQ ?_|(refine pI (c:=false) (n:=15) (vs:=[.bd 239 [.pt 0 0 0 0],.bd 239 [.pt 0 0 0 0],.bd 240 [.pt 0 0 0 0],.bd 241 [.pt 0 0 0 0],.bd 242 [.pt 0 0 0 0],.bd 242 [.pt 0 0 0 0],.bd 243 [.pt 0 0 0 0],.dW 244 [.pt 4 0 0 0]]) [10,11,12,14,15,16,17,13] .nilFunc (.bd 242 [.pt 0 0 0 0]) cQ jG rfl ?_)|(refine rE Rk rfl ?_;try refine S ?_)|(refine rN QM rfl ?_;try refine S ?_)|refine ap ?_|exact jI|(clear hK K)))
  subst hE;exact kI hB [] rfl
 have k16:(aJ p (aW p R.st)).kind=16:=jB;have QM:=Ie h inp R hd k16 (fun x hx e=>G5 h R s1 (.inr k16) x hx e) R' tr u';clear u' hd hw Sb;generalize aW p R.st=a at*;unfold aJ at*;have O':(nth p.aa.nodes a.toNat).kind=16:=by assumption
 refine aO func233 ntmps233 ?_;generalize hB:ids (aI p inp 0 R [])=B;generalize hE:aI p inp tr R' []=E;refine S ?_
 (have W:=O';repeat' (first|refine aq fun K hK=>?_|refine am ?_|(refine hK _ _ ?_;clear hK K)|(refine ao ?_ ?_<;>intro hc<;>try exact jz)|refine bz 4 ?_|refine bf 5 ?_|refine o5 6 ?_|refine dk (vs:=[]) [] cQ ?_|refine dk (vs:=[.bd 239 [.pt 0 0 0 0]]) [10] cQ ?_|refine dk (vs:=[.bd 239 [.pt 0 0 0 0],.bd 239 [.pt 0 0 0 0]]) [10,11] cQ ?_|refine dk (vs:=[.bd 239 [.pt 0 0 0 0],.bd 239 [.pt 0 0 0 0],.bd 240 [.pt 0 0 0 0]]) [10,11,12] cQ ?_|refine dk (vs:=[.bd 239 [.pt 0 0 0 0],.bd 239 [.pt 0 0 0 0],.bd 240 [.pt 0 0 0 0],.bd 241 [.pt 0 0 0 0]]) [10,11,12,14] cQ ?_|refine dk (vs:=[.bd 239 [.pt 0 0 0 0],.bd 239 [.pt 0 0 0 0],.bd 240 [.pt 0 0 0 0],.bd 241 [.pt 0 0 0 0],.bd 242 [.pt 0 0 0 0]]) [10,11,12,14,15] cQ ?_|refine dk (vs:=[.bd 239 [.pt 0 0 0 0],.bd 239 [.pt 0 0 0 0],.bd 240 [.pt 0 0 0 0],.bd 241 [.pt 0 0 0 0],.bd 242 [.pt 0 0 0 0],.bd 242 [.pt 0 0 0 0]]) [10,11,12,14,15,16] cQ ?_|refine dk (vs:=[.bd 239 [.pt 0 0 0 0],.bd 239 [.pt 0 0 0 0],.bd 240 [.pt 0 0 0 0],.bd 241 [.pt 0 0 0 0],.bd 242 [.pt 0 0 0 0],.bd 242 [.pt 0 0 0 0],.bd 243 [.pt 0 0 0 0]]) [10,11,12,14,15,16,17] cQ ?_|(refine pI (c:=false) (n:=16) (vs:=[.bd 239 [.pt 0 0 0 0],.bd 239 [.pt 0 0 0 0],.bd 240 [.pt 0 0 0 0],.bd 241 [.pt 0 0 0 0],.bd 242 [.pt 0 0 0 0],.bd 242 [.pt 0 0 0 0],.bd 243 [.pt 0 0 0 0],.dW 244 [.pt 4 0 0 0]]) [10,11,12,14,15,16,17,13] .nilFunc (.bd 242 [.pt 0 0 0 0]) cQ jG rfl ?_)|(refine rE Rk rfl ?_;try refine S ?_)|(refine rN QM rfl ?_;try refine S ?_)|refine ap ?_|exact jI|(clear hK K)))
 subst hE;exact kI hB [] rfl
def Mi(l:List (aP))(hl:l.length<=1000)(i:Nat):af prog 234 [ax fa 3 l] [] (fun r l'=>r=.rs i l.length 3 l.length/\l'=[(i,.aG 87 3 (l.map fa))]):=by
 refine aO func234 ntmps234 ?_
 (repeat' (first|refine aq fun K hK=>?_|refine am ?_|(refine hK _ _ ?_;clear hK K)|(refine ao ?_ ?_<;>intro hc<;>try exact jz)|(with_reducible refine fun(b:Bool) hb=>?_)|refine lb i ?_|refine ap ?_|exact jI|(clear hK K)))
 ·have RJ:l=[]:=by simpa using hb hc
  subst RJ;exact sG i 87 3 jC [.tmp 2] rfl rfl trivial
 ·(refine cj [.tmp 2] ?_ ?_<;>(try simp only[go_sem]))
def Mb(l:PX)(hl:l.length<=1000)(i:Nat):af prog 235 [ax gu 1 l] [] (fun r l'=>r=.rs i l.length 1 l.length/\l'=[(i,.aG 22 1 (l.map gu))]):=by
 refine aO func235 ntmps235 ?_
 (repeat' (first|refine aq fun K hK=>?_|refine am ?_|(refine hK _ _ ?_;clear hK K)|(refine ao ?_ ?_<;>intro hc<;>try exact jz)|(with_reducible refine fun(b:Bool) hb=>?_)|refine lb i ?_|refine ap ?_|exact jI|(clear hK K)))
 ·have RJ:l=[]:=by simpa using hb hc
  subst RJ;exact sG i 22 1 jC [.tmp 2] rfl rfl trivial
 ·(refine cj [.tmp 2] ?_ ?_<;>(try simp only[go_sem]))
def Lb(l:List P0)(hl:l.length<=1000)(i:Nat):af prog 48 [ax eS 1 l] [] (fun r l'=>r=.rs i l.length 1 l.length/\l'=[(i,.aG 9 1 (l.map eS))]):=by
 refine aO func48 ntmps48 ?_
 (repeat' (first|refine aq fun K hK=>?_|refine am ?_|(refine hK _ _ ?_;clear hK K)|(refine ao ?_ ?_<;>intro hc<;>try exact jz)|(with_reducible refine fun(b:Bool) hb=>?_)|refine lb i ?_|refine ap ?_|exact jI|(clear hK K)))
 ·have RJ:l=[]:=by simpa using hb hc
  subst RJ;exact sG i 9 1 jC [.tmp 2] rfl rfl trivial
 ·(refine cj [.tmp 2] ?_ ?_<;>(try simp only[go_sem]))
def JF(l:List (ai))(hl:l.length<=1000)(i:Nat):af prog 49 [ax bk 3 l] [] (fun r l'=>r=.rs i l.length 3 l.length/\l'=[(i,.aG 50 3 (l.map bk))]):=by
 refine aO func49 ntmps49 ?_
 (repeat' (first|refine aq fun K hK=>?_|refine am ?_|(refine hK _ _ ?_;clear hK K)|(refine ao ?_ ?_<;>intro hc<;>try exact jz)|(with_reducible refine fun(b:Bool) hb=>?_)|refine lb i ?_|refine ap ?_|exact jI|(clear hK K)))
 ·have RJ:l=[]:=by simpa using hb hc
  subst RJ;exact sG i 50 3 jC [.tmp 2] rfl rfl trivial
 ·(refine cj [.tmp 2] ?_ ?_<;>(try simp only[go_sem]))
def Ih(l:List (cU))(hl:l.length<=1000)(i:Nat):af prog 236 [ax ej 2 l] [] (fun r l'=>r=.rs i l.length 2 l.length/\l'=[(i,.aG 89 2 (l.map ej))]):=by
 refine aO func236 ntmps236 ?_
 (repeat' (first|refine aq fun K hK=>?_|refine am ?_|(refine hK _ _ ?_;clear hK K)|(refine ao ?_ ?_<;>intro hc<;>try exact jz)|(with_reducible refine fun(b:Bool) hb=>?_)|refine lb i ?_|refine ap ?_|exact jI|(clear hK K)))
 ·have RJ:l=[]:=by simpa using hb hc
  subst RJ;exact sG i 89 2 jC [.tmp 2] rfl rfl trivial
 ·(refine cj [.tmp 2] ?_ ?_<;>(try simp only[go_sem]))
def L3(l:List (Int))(hl:l.length<=1000)(i:Nat):af prog 81 [ax eI 1 l] [] (fun r l'=>r=.rs i l.length 1 l.length/\l'=[(i,.aG 3 1 (l.map eI))]):=by
 refine aO func81 ntmps81 ?_
 (repeat' (first|refine aq fun K hK=>?_|refine am ?_|(refine hK _ _ ?_;clear hK K)|(refine ao ?_ ?_<;>intro hc<;>try exact jz)|(with_reducible refine fun(b:Bool) hb=>?_)|refine lb i ?_|refine ap ?_|exact jI|(clear hK K)))
 ·have RJ:l=[]:=by simpa using hb hc
  subst RJ;exact sG i 3 1 jC [.tmp 2] rfl rfl trivial
 ·(refine cj [.tmp 2] ?_ ?_<;>(try simp only[go_sem]))
def NY(s:aw)(h1:s.ah.length<=1000)(h2:s.heap.length<=1000)(h3:s.aS.length<=1000)(h4:∀k,k<s.ah.length->(nth s.ah k).ab.length<=1000/\(nth s.ah k).path.length<=1000)(h5:∀k,k<s.heap.length->(nth s.heap k).length<=1000) :
  af prog 230 [.agg (bv s)] [] (fun r l=>r=.agg (RS.of s).c/\l=(RS.of s).rows):=by
 generalize hR:RS.of s=R;refine aO func230 ntmps230 ?_
 (repeat' (first|refine aq fun K hK=>?_|refine am ?_|(with_reducible refine gR 1 ?_);refine dC 1 ([],[],[9,12,15,1000000]) [] [0,1,3,4,6,7,2,9,5,8,10,11,12,13,14] mixed ?_|(with_reducible refine gR 5 ?_);refine dC 5 ([1],[],[35,38]) [] [0,1,2,3,4,5,6,7,9,10,8,11,12,13,14,15,16,17] mixed ?_|(with_reducible refine gR 10 ?_);refine dC 10 ([2],[],[56]) [] (au 0 7) mixed ?_|(refine hK _ _ ?_;clear hK K)|(refine ao ?_ ?_<;>intro hc<;>try exact jz)|refine bz 4 ?_|refine bf 5 ?_|refine cN (Mi s.ah h1 1) ?_|refine cN (Mb s.heap h2 2) ?_|refine cN (Lb s.aS h3 3) ?_|refine ap ?_|exact jI|(clear hK K)))
 have M':=hK;clear hK;refine de (S:=Nat) [(3,2),(22,22)] (fun k=>k<=s.ah.length) (fun k=>[(22,rI k)])
  (fun k=>⟨[],(4,.var 39 [.rs 1 s.ah.length 3 s.ah.length,.rs 2 s.heap.length 1 s.heap.length,rI s.in_,.rs 3 s.aS.length 1 s.aS.length,rI s.status,rI s.bL,rI s.time])::(5,.var 39 [.raw (.slice none 0 0),.raw (.slice none 0 0),rI 0,.raw (.slice none 0 0),rI 0,rI 0,rI 0])::(1,.aG 87 3 (dh s.ah.length fun j=>if j<k then R.fr j else fa (nth s.ah j)))::(2,.aG 22 1 (s.heap.map gu))::(3,.aG 9 1 (s.aS.map eS))::bE 0 k R.sl (bE 1 k R.pt [])⟩)
  (fun k=>s.ah.length-k) 0 jB (dc ?_ bK) ?_
 ·rw[Gh fa];simp only[Nat.not_lt_zero,if_false];rfl
 rintro k hk Kr P9;by_cases Rc:k<s.ah.length
 ·obtain⟨g1,g2⟩:=h4 k Rc;have Rt:fa (nth s.ah k)=[rI (nth s.ah k).fn,ax bk 3 (nth s.ah k).ab,ax ej 2 (nth s.ah k).path]:=rfl;have RK:(k<k)=False:=eq_false (Nat.lt_irrefl k);have VD:=JF (nth s.ah k).ab g1 (bj 0 k);have R6:=Ih (nth s.ah k).path g2 (bj 1 k);have hfi:(bj 0 k=bj 1 k)=False:=eq_false fun e=>by have:=(nz jB jB e).1;omega
  refine S ?_
  (have W:=jA RK Rt;repeat' (first|refine aq fun K hK=>?_|refine am ?_|(with_reducible refine gR 1 ?_);refine dC 1 ([],[],[9,12,15,1000000]) [] [0,1,3,4,6,7,2,9,5,8,10,11,12,13,14] mixed ?_|(with_reducible refine gR 5 ?_);refine dC 5 ([1],[],[35,38]) [] [0,1,2,3,4,5,6,7,9,10,8,11,12,13,14,15,16,17] mixed ?_|(with_reducible refine gR 10 ?_);refine dC 10 ([2],[],[56]) [] (au 0 7) mixed ?_|(refine hK _ _ ?_;clear hK K)|(refine ao ?_ ?_<;>intro hc<;>try exact jz)|refine bf 6 ?_|refine cN VD ?_|refine cN R6 ?_|refine ap ?_|exact jI|(clear hK K)))
  have XZ:∀j,j<s.ah.length->(if j=k then[rI (nth s.ah k).fn,.rs (bj 0 k) (nth s.ah k).ab.length 3 (nth s.ah k).ab.length,.rs (bj 1 k) (nth s.ah k).path.length 2 (nth s.ah k).path.length]else if j=k then[rI (nth s.ah k).fn,.rs (bj 0 k) (nth s.ah k).ab.length 3 (nth s.ah k).ab.length,ax ej 2 (nth s.ah k).path]else if j<k then R.fr j else fa (nth s.ah j))=if j<k+1 then R.fr j else fa (nth s.ah j):=fun j hj=>by
   by_cases e:j=k
   ·subst e;rw[if_pos rfl,jP];subst hR;unfold RS.fr;rw[show nth (RS.of s).jp j=[] from vA _ _ _ Rc];rfl
   ·rw[if_neg e,if_neg e];by_cases e2:j<k
    ·rw[if_pos e2,jP]
    ·rw[if_neg e2,jN]
  have W5:=gW 0 k;have QA:=gW 1 k;have Q8:bj 1 k≠bj 0 k:=fun e=>by have:=(nz jB jB e).1;omega
  refine P9 _ _ (xR ((4,.var 39 [.rs 1 s.ah.length 3 s.ah.length,.rs 2 s.heap.length 1 s.heap.length,rI s.in_,.rs 3 s.aS.length 1 s.aS.length,rI s.status,rI s.bL,rI s.time])::(5,.var 39 [.raw (.slice none 0 0),.raw (.slice none 0 0),rI 0,.raw (.slice none 0 0),rI 0,rI 0,rI 0])::(1,.aG 87 3 (dh s.ah.length fun j=>if j<(k+1)then R.fr j else fa (nth s.ah j)))::(2,.aG 22 1 (s.heap.map gu))::(3,.aG 9 1 (s.aS.map eS))::bE 0 (k+1) R.sl (bE 1 (k+1) R.pt [(6,.var 87 (fa (nth s.ah k)))]))
   (fun i=>[6].contains i) (k+1) jB (by show s.ah.length-(k+1)<s.ah.length-k;omega) (jn _ _ (jn _ _ (nb _ ?_ (jn _ _ (jn _ _ fun i=>?_))))) rfl ?_ ?_ ?_)
  ·exact congrArg (Row.aG _ _) (oM rfl XZ)
  ·refine(kj 0 k R.sl (fun i=>kj 1 k R.pt (l':=[_]++[(bj 1 k,.aG 89 2 ((nth s.ah k).path.map ej)),(bj 0 k,.aG 50 3 ((nth s.ah k).ab.map bk))]) (fun i=>?_) i) i).trans (zZ (h:=0) (q:=R.hp) R.sl R.pt (fun _ _=>rfl) (fun _ _=>rfl) ?_ ?_ aM i)
   ·simp only[aB,List.cons_append,List.nil_append];repeat' split
    all_goals first
     |rfl
     |omega
   ·subst hR;rfl
   ·subst hR;unfold RS.pt;rw[show nth (RS.of s).jp k=[] from vA _ _ _ Rc,List.append_nil];rfl
  ·refine⟨.inr rfl,.inr rfl,.inr (qj fun j _=>?_),.inr (iW (enc:=gu) (sz:=1) _),.inr (iW (enc:=eS) (sz:=1) _),oG (fun j _=>wI _ _ _) (oG (fun j _=>wx _ _ _) ⟨.inl rfl,trivial⟩)⟩;split
   ·simp only[RS.fr,aU,AV.all,df,lc (L:=[6]) rfl];rfl
   ·exact Co _ _
  ·show Hp.mk [] (_::_::_::_::_::dq _ (bE 0 _ _ _))=_;rw[oD (lc rfl 0),oD (lc rfl 1)];rfl
  ·exact gJ
 ·have RT:k=s.ah.length:=jB;subst RT;have ZB:(dh s.ah.length fun j=>if j<s.ah.length then R.fr j else fa (nth s.ah j))=dh s.ah.length R.fr:=oM rfl fun j hj=>by rw[if_pos hj]
  simp only[ZB];refine S ?_
  (repeat' (first|refine aq fun K hK=>?_|refine am ?_|(with_reducible refine gR 1 ?_);refine dC 1 ([],[],[9,12,15,1000000]) [] [0,1,3,4,6,7,2,9,5,8,10,11,12,13,14] mixed ?_|(with_reducible refine gR 5 ?_);refine dC 5 ([1],[],[35,38]) [] [0,1,2,3,4,5,6,7,9,10,8,11,12,13,14,15,16,17] mixed ?_|(with_reducible refine gR 10 ?_);refine dC 10 ([2],[],[56]) [] (au 0 7) mixed ?_|(refine hK _ _ ?_;clear hK K)|(refine ao ?_ ?_<;>intro hc<;>try exact jz)|refine M' _ _ ?_|refine ap ?_|exact jI|(clear hK K)))
  have X0:=hK;clear hK;refine de (S:=Nat) [(5,2),(47,12)] (fun j=>j<=s.heap.length) (fun j=>[(47,rI j)])
   (fun i=>⟨[],(4,.var 39 [.rs 1 s.ah.length 3 s.ah.length,.rs 2 s.heap.length 1 s.heap.length,rI s.in_,.rs 3 s.aS.length 1 s.aS.length,rI s.status,rI s.bL,rI s.time])::(5,.var 39 [.raw (.slice none 0 0),.raw (.slice none 0 0),rI 0,.raw (.slice none 0 0),rI 0,rI 0,rI 0])::(1,.aG 87 3 (dh s.ah.length R.fr))::(2,.aG 22 1 (dh s.heap.length fun j=>if j<i then[.rs (bj 2 j) (nth s.heap j).length 1 (nth s.heap j).length]else gu (nth s.heap j)))::(3,.aG 9 1 (s.aS.map eS))::bE 0 s.ah.length R.sl (bE 1 s.ah.length R.pt (bE 2 i R.hp []))⟩)
   (fun j=>s.heap.length-j) 0 jB (dc ?_ bK) ?_
  ·rw[Gh gu];simp only[Nat.not_lt_zero,if_false];rfl
  rintro i hi Ks UC;by_cases RI:i<s.heap.length
  ·have g3:=h5 i RI;have ZC:=L3 (nth s.heap i) g3 (bj 2 i);have ZD:(i<i)=False:=eq_false (Nat.lt_irrefl i);have S2:gu (nth s.heap i)=[ax eI 1 (nth s.heap i)]:=rfl;refine S ?_
   (have W:=jA ZD S2;repeat' (first|refine aq fun K hK=>?_|refine am ?_|(with_reducible refine gR 1 ?_);refine dC 1 ([],[],[9,12,15,1000000]) [] [0,1,3,4,6,7,2,9,5,8,10,11,12,13,14] mixed ?_|(with_reducible refine gR 5 ?_);refine dC 5 ([1],[],[35,38]) [] [0,1,2,3,4,5,6,7,9,10,8,11,12,13,14,15,16,17] mixed ?_|(with_reducible refine gR 10 ?_);refine dC 10 ([2],[],[56]) [] (au 0 7) mixed ?_|(refine hK _ _ ?_;clear hK K)|(refine ao ?_ ?_<;>intro hc<;>try exact jz)|refine cN ZC ?_|refine ap ?_|exact jI|(clear hK K)))
   have X1:∀j,j<s.heap.length->(if j=i then[AV.rs (bj 2 i) (nth s.heap i).length 1 (nth s.heap i).length]else if j<i then[AV.rs (bj 2 j) (nth s.heap j).length 1 (nth s.heap j).length]else gu (nth s.heap j))=if j<i+1 then[AV.rs (bj 2 j) (nth s.heap j).length 1 (nth s.heap j).length]else gu (nth s.heap j):=fun j hj=>by
    by_cases e:j=i
    ·subst e;rw[if_pos rfl,jP]
    ·rw[if_neg e];by_cases e2:j<i
     ·rw[if_pos e2,jP]
     ·rw[if_neg e2,jN]
   have Q8:=gW 2 i;refine UC _ _ (xR ((4,.var 39 [.rs 1 s.ah.length 3 s.ah.length,.rs 2 s.heap.length 1 s.heap.length,rI s.in_,.rs 3 s.aS.length 1 s.aS.length,rI s.status,rI s.bL,rI s.time])::(5,.var 39 [.raw (.slice none 0 0),.raw (.slice none 0 0),rI 0,.raw (.slice none 0 0),rI 0,rI 0,rI 0])::(1,.aG 87 3 (dh s.ah.length R.fr))::(2,.aG 22 1 (dh s.heap.length fun j=>if j<(i+1)then[.rs (bj 2 j) (nth s.heap j).length 1 (nth s.heap j).length]else gu (nth s.heap j)))::(3,.aG 9 1 (s.aS.map eS))::bE 0 s.ah.length R.sl (bE 1 s.ah.length R.pt (bE 2 (i+1) R.hp [])))
    (fun i=>[6].contains i) (i+1) jB (by show s.heap.length-(i+1)<s.heap.length-i;omega) (jn _ _ (jn _ _ (jn _ _ (nb _ ?_ (jn _ _ fun j=>?_))))) rfl ?_ ?_ ?_)
   ·exact congrArg (Row.aG _ _) (oM rfl X1)
   ·refine(kj 0 _ R.sl (fun j=>kj 1 _ R.pt (fun j=>kj 2 i R.hp (l':=[]++[(bj 2 i,.aG 3 1 ((nth s.heap i).map eI))]) (fun j=>?_) j) j) j).trans (zQ R.hp (fun _ _=>rfl) ?_ aM j)
    ·rfl
    ·subst hR;unfold RS.hp;rfl
   ·refine⟨.inr rfl,.inr rfl,.inr (qj fun j _=>?_),.inr (qj fun j _=>?_),.inr (iW (enc:=eS) (sz:=1) _),oG (fun j _=>wI _ _ _) (oG (fun j _=>wx _ _ _) (oG (fun j _=>Ga _ _ _) trivial))⟩
    ·simp only[RS.fr,aU,AV.all,df,lc (L:=[6]) rfl];rfl
    ·split
     ·simp only[aU,AV.all,df,lc (L:=[6]) rfl];rfl
     ·rfl
   ·show Hp.mk [] (_::_::_::_::_::dq _ (bE 0 _ _ _))=_;rw[oD (lc rfl 0),oD (lc rfl 1),oD (lc rfl 2)];rfl
   ·exact gJ
  ·have Wp:i=s.heap.length:=jB;subst Wp;have ZE:(dh s.heap.length fun j=>if j<s.heap.length then[AV.rs (bj 2 j) (nth s.heap j).length 1 (nth s.heap j).length]else gu (nth s.heap j))=dh s.heap.length fun j=>[AV.rs (bj 2 j) (nth s.heap j).length 1 (nth s.heap j).length]:=oM rfl fun j hj=>by rw[if_pos hj]
   simp only[ZE];refine S ?_
   (repeat' (first|refine aq fun K hK=>?_|refine am ?_|(with_reducible refine gR 1 ?_);refine dC 1 ([],[],[9,12,15,1000000]) [] [0,1,3,4,6,7,2,9,5,8,10,11,12,13,14] mixed ?_|(with_reducible refine gR 5 ?_);refine dC 5 ([1],[],[35,38]) [] [0,1,2,3,4,5,6,7,9,10,8,11,12,13,14,15,16,17] mixed ?_|(with_reducible refine gR 10 ?_);refine dC 10 ([2],[],[56]) [] (au 0 7) mixed ?_|(refine hK _ _ ?_;clear hK K)|(refine ao ?_ ?_<;>intro hc<;>try exact jz)|(refine X0 _ _ ?_)|refine ap ?_|exact jI|(clear hK K)))
   refine GX (l':=R.cI [(4,.var 39 R.c),(5,.var 39 R.c)]) (fun i=>?_) [.cell 2 39] ?_ ?_ ?_ ?_
   ·subst hR;rw[RS.cF,jc];by_cases i4:i=4
    ·subst i4;rw[RS.ei 4 jB jB];rfl
    by_cases i5:i=5
    ·subst i5;rw[RS.ei 5 jB jB];rfl
    rw[show aB [(4,Row.var 39 (RS.of s).c),(5,.var 39 (RS.of s).c)] i=none by simp only[aB,if_neg i4,if_neg i5],Option.or_none];unfold RS.rows;simp only[aB,if_neg i4,if_neg i5];by_cases i1:i=1
    ·subst i1;rfl
    by_cases i2:i=2
    ·subst i2;rfl
    by_cases i3:i=3
    ·subst i3;rfl
    simp only[if_neg i1,if_neg i2,if_neg i3];rfl
   ·subst hR;rfl
   ·exact(RS.free (t:=0) (pre:=[]) (post:=[]) (R:=R) (t':=0) (pre':=[]) (post':=[]) (R':=R) rfl aM rfl rfl).2.1.2
   ·rfl
   ·have:=(RS.free (t:=0) (pre:=[]) (post:=[]) (R:=R) (t':=0) (pre':=[]) (post':=[]) (R':=R) (tl:=[(4,.var 39 R.c),(5,.var 39 R.c)]) rfl aM rfl rfl).2.2;exact(List.cons.inj this).2
def mA(p:ae)(s:aw):Row:=.var 141 [ax bX 5 p.aa.nodes,ax eZ 5 p.aa.av,ax eI 1 p.types,ax eI 1 p.ab,ax eI 1 p.fn,ax eI 1 p.size,ax fa 3 s.ah,ax gu 1 s.heap,rI s.in_,ax eS 1 s.aS,rI s.status,rI s.bL,rI s.time,.raw (.slice none 0 0),rI 0]
def KK(p:ae)(s:aw)(h1:1<=s.ah.length)(h2:s.ah.length<=1000) :
  af prog 94 [.pt 0 0 0 0] [(0,mA p s)] (fun r l=>r=.ip (fa s.cC)/\l=[(0,mA p s)]):=by
 unfold aw.cC mA;refine aO func94 ntmps94 ?_
 (repeat' (first|refine aq fun K hK=>?_|refine am ?_|(with_reducible refine gR 1 ?_);refine dE 1 (au 0 14) mixed ?_|(refine hK _ _ ?_;clear hK K)|(refine ao ?_ ?_<;>intro hc<;>try exact jz)|refine ap ?_|exact jI|(clear hK K)))
 (refine cj [.tmp 2] ?_ ?_<;>(try simp only[go_sem]))
def IU(p:ae)(s:aw)(h1:1<=s.ah.length)(h2:s.ah.length<=1000)(h3:1<=s.cC.path.length)(h4:s.cC.path.length<=1000) :
  af prog 97 [.pt 0 0 0 0] [(0,mA p s)] (fun r l=>r=.ip (ej s.cC.pl)/\l=[(0,mA p s)]):=by
 have ht:=KK p s h1 h2;unfold aP.pl;unfold mA at*;generalize s.cC=f at*;refine aO func97 ntmps97 ?_
 (repeat' (first|refine aq fun K hK=>?_|refine am ?_|(with_reducible refine gR 2 ?_);refine dE 2 (au 0 12) mixed ?_|(refine hK _ _ ?_;clear hK K)|(refine ao ?_ ?_<;>intro hc<;>try exact jz)|refine cm (ht) ?_|refine ap ?_|exact jI|(clear hK K)))
 (refine cj [.tmp 2] ?_ ?_<;>(try simp only[go_sem]))
def Mm(p:ae)(s:aw)(a:Int)(h0:0<=a)(h1:a.toNat<p.aa.nodes.length) :
  af prog 98 [.pt 0 0 0 0,rI a] [(0,mA p s)] (fun r l=>r=.agg (bX (aJ p a))/\l=[(0,mA p s)]):=by
 unfold aJ mA;refine aO func98 ntmps98 ?_
 (repeat' (first|refine aq fun K hK=>?_|refine am ?_|(refine hK _ _ ?_;clear hK K)|(refine ao ?_ ?_<;>intro hc<;>try exact jz)|refine bf 4 ?_|refine ap ?_|exact jI|(clear hK K)))
 (refine aY [.cell 4 78] ?_;try simp only[go_sem])
variable{s:aw}
def K9(h:ka p s):af prog 141 [.pt 0 0 0 0] [(0,mA p s)] (fun r l=>r=rI (aW p s)/\l=[(0,mA p s)]):=by
 have hp:=IU p s h.fr h.ak h.pa h.gV;have hn:=Mm p s s.cC.pl.block h.b0 (by have:=h.b0;have:=h.b1;omega);have a0:=h.a0;have a1:=h.a1;unfold aW;unfold ir aJ mA at*;generalize s.cC.pl=x at*;generalize nth p.aa.nodes x.block.toNat=n at*;refine aO func141 ntmps141 ?_
 (repeat' (first|refine aq fun K hK=>?_|refine am ?_|(with_reducible refine gR 2 ?_);refine dC 2 ([],[11],[]) [] (au 0 14) mixed ?_|(refine hK _ _ ?_;clear hK K)|(refine ao ?_ ?_<;>intro hc<;>try exact jz)|refine bf 4 ?_|refine cm (hp) ?_|refine LS hn ?_|refine ap ?_|exact jI|(clear hK K)))
 (refine aY [.tmp 2] ?_;try simp only[go_sem])
def sI(hs:bY p)(h:bC p s):aA prog 229 [.agg (bp p),.agg (bv s)] (rI (bq p s)):=by
 by_cases h2:s.status=2\/s.status=3
 ·unfold bq;rw[if_pos h2];rcases h2 with h2|h2<;>
  ·refine bI func229 ntmps229 ?_
   (have W:=h2;repeat' (first|refine aq fun K hK=>?_|refine am ?_|(refine hK _ _ ?_;clear hK K)|(refine ao ?_ ?_<;>intro hc<;>try exact jz)|refine bz 4 ?_|refine bz 5 ?_|refine ap ?_|exact jI|(clear hK K)))
   (refine aY [.tmp 4] ?_;try simp only[go_sem])
 ·have hd:=h.eF (fun e=>h2 (.inl e)) 0 jC;have J':=hd.fy hs;rw[RS.dt]at J';have J':ka p s:=⟨J'.fr,J'.ak,J'.pa,J'.gV,J'.b0,J'.b1,J'.a0,J'.a1,J'.uW,J'.n0,J'.n1,J'.sl,J'.s0⟩;have hx:=K9 J';unfold mA at hx;unfold bq;rw[if_neg h2];generalize aW p s=a at*;have ZF:(s.status=2)=False:=eq_false fun e=>h2 (.inl e)
  have ZG:(s.status=3)=False:=eq_false fun e=>h2 (.inr e)
  have Wr:bv s=[ax fa 3 s.ah,ax gu 1 s.heap,rI s.in_,ax eS 1 s.aS,rI s.status,rI s.bL,rI s.time]:=rfl;refine bI func229 ntmps229 ?_
  (have W:=jA ZF (jA ZG (Wr));repeat' (first|refine aq fun K hK=>?_|refine am ?_|(refine hK _ _ ?_;clear hK K)|(refine ao ?_ ?_<;>intro hc<;>try exact jz)|refine bz 4 ?_|refine bz 5 ?_|refine bz 0 ?_|refine cm (hx) ?_|refine ap ?_|exact jI|(clear hK K)))
  (refine aY [.tmp 4] ?_;try simp only[go_sem])
def Es(hs:bY p)(a left:Int)(h0:0<=a)(h1:a.toNat<p.aa.nodes.length)(hl:bn left):aA prog 232 [.agg (bp p),rI a,rI left] (rB (decide (left<=0/\gg p a/\(aJ p (nth (aJ p a).l 0)).kind=19))):=by
 unfold aJ gg;by_cases c0:left<=0
 rotate_left
 ·rw[decide_eq_false (fun h=>c0 h.1)];have c0':=eq_false c0;refine bI func232 ntmps232 ?_
  (have W:=c0';repeat' (first|refine aq fun K hK=>?_|refine am ?_|(with_reducible refine gR 2 ?_);refine dE 2 (au 0 26) mixed ?_|(refine hK _ _ ?_;clear hK K)|(refine ao ?_ ?_<;>intro hc<;>try exact jz)|refine bz 4 ?_|refine bf 5 ?_|refine ap ?_|exact jI|(clear hK K)))
  (refine aY [.tmp 6] ?_;try simp only[go_sem])
  rfl
 by_cases c1:(nth p.aa.nodes a.toNat).kind=10\/(nth p.aa.nodes a.toNat).kind=11
 rotate_left
 ·rw[decide_eq_false (fun h=>c1 h.2.1)];have c0':=eq_true c0;have c1a:((nth p.aa.nodes a.toNat).kind=10)=False:=eq_false fun e=>c1 (.inl e)
  have c1b:((nth p.aa.nodes a.toNat).kind=11)=False:=eq_false fun e=>c1 (.inr e)
  refine bI func232 ntmps232 ?_
  (have W:=jA c0' (jA c1a (c1b));repeat' (first|refine aq fun K hK=>?_|refine am ?_|(with_reducible refine gR 2 ?_);refine dE 2 (au 0 26) mixed ?_|(refine hK _ _ ?_;clear hK K)|(refine ao ?_ ?_<;>intro hc<;>try exact jz)|refine bz 4 ?_|refine bf 5 ?_|refine ap ?_|exact jI|(clear hK K)))
  (refine aY [.tmp 6] ?_;try simp only[go_sem])
  rfl
 obtain⟨x,Qa,SD⟩:=(hs.ok.aa.shape a.toNat h1).1.right c1;have Q7:=(hs.ok.aa.shape a.toNat h1).2.1 x (by rw[Qa];simp);have Qc:nth (nth p.aa.nodes a.toNat).l 0=x:=by rw[Qa];rfl
 have Qj:(nth p.aa.nodes a.toNat).l.length=1:=by rw[Qa];rfl
 have Uo:x.toNat<p.aa.nodes.length:=jB;have ZH:=Q7.1;rw[Qc];have e:decide (left<=0/\((nth p.aa.nodes a.toNat).kind=10\/(nth p.aa.nodes a.toNat).kind=11)/\(nth p.aa.nodes x.toNat).kind=19)=decide ((nth p.aa.nodes x.toNat).kind=19):=by
  by_cases k:(nth p.aa.nodes x.toNat).kind=19
  ·rw[decide_eq_true ⟨c0,c1,k⟩,decide_eq_true k]
  ·rw[decide_eq_false (fun h=>k h.2.2),decide_eq_false k]
 rw[e];have c0':=eq_true c0;rcases c1 with c1|c1<;>
 ·refine bI func232 ntmps232 ?_
  (have W:=jA c0' (jA c1 (jA Qc (Qj)));repeat' (first|refine aq fun K hK=>?_|refine am ?_|(with_reducible refine gR 2 ?_);refine dE 2 (au 0 26) mixed ?_|(refine hK _ _ ?_;clear hK K)|(refine ao ?_ ?_<;>intro hc<;>try exact jz)|refine bz 4 ?_|refine bf 5 ?_|refine ap ?_|exact jI|(clear hK K)))
  (refine aY [.tmp 6] ?_;try simp only[go_sem])
def PB(f:bg):aA prog 59 [.agg (eZ f)] (rB (decide (f.name=(⟨#[109,97,105,110]⟩:P0)))):=by
 refine bI func59 ntmps59 ?_
 (repeat' (first|refine aq fun K hK=>?_|refine am ?_|(refine hK _ _ ?_;clear hK K)|(refine ao ?_ ?_<;>intro hc<;>try exact jz)|refine bz 4 ?_|refine ap ?_|exact jI|(clear hK K)))
 (refine aY [.tmp 2] ?_;try simp only[go_sem])
def Lz(L:List bg)(k:Nat)(hL:L.length<=1000)(hk:k<L.length)(Qx:(nth L k).name=(⟨#[109,97,105,110]⟩:P0))(TR:∀i,i<k->(nth L i).name≠(⟨#[109,97,105,110]⟩:P0)) :
  aA prog 58 [ax eZ 5 L,.raw (.func (.func 59) #[] #[])] (rI k):=by
 refine bI func58 ntmps58 ?_
 (repeat' (first|refine aq fun K hK=>?_|refine am ?_|(refine hK _ _ ?_;clear hK K)|(refine ao ?_ ?_<;>intro hc<;>try exact jz)|refine ap ?_|exact jI|(clear hK K)))
 refine de (S:=Nat) [(4,2),(8,11)] (fun i=>i<=k) (fun i=>[(8,rI i)]) (fun i=>⟨[],[]⟩) (fun i=>k-i) 0 jB (dc rfl bK) ?_;rintro i hi Kr P9;have Rn:=PB (nth L i);by_cases e:i=k
 ·subst e;rw[decide_eq_true Qx]at Rn;refine S ?_
  (repeat' (first|refine aq fun K hK=>?_|refine am ?_|(refine hK _ _ ?_;clear hK K)|(refine ao ?_ ?_<;>intro hc<;>try exact jz)|refine cp (Rn) ?_|refine ap ?_|exact jI|(clear hK K)))
  (refine aY [.tmp 4] ?_;try simp only[go_sem])
 ·rw[decide_eq_false (TR i jB)]at Rn;refine S ?_
  (repeat' (first|refine aq fun K hK=>?_|refine am ?_|(refine hK _ _ ?_;clear hK K)|(refine ao ?_ ?_<;>intro hc<;>try exact jz)|refine cp (Rn) ?_|refine ap ?_|exact jI|(clear hK K)))
  refine P9 _ _ (dI (i+1) jB jJ rfl bK)
def H6(hs:bY p):aA prog 31 [.agg (bp p)] (.agg (bv (dx p))):=by
 obtain⟨m,hm,T8,Qx,Ty⟩:=yY hs;have Wo:=hs.ok.aa.av;have W7:=Lz p.aa.av m jB hm Qx (fun i hi=>by have:=hs.names.one i m hi hm;rwa [Qx]at this);have ZI:(RS.of qJ).push (fk p m [])=fm p:=by unfold fm;rw[T8];rfl
 have W8:=yy (args:=[.pt 0 0 0 0,rI m,.raw (.slice none 0 0)]) (args':=[.pt 0 0 0 0,rI m,ax bk 3 []]) ⟨eV.refl _,eV.refl _,eV.nil,trivial⟩ (G6 hs [] 0 (RS.of qJ) (RS.kM _) rfl (by show 0<=1000;omega) m hm [] (by rw[Ty];rfl));have N':=GD hs [] 0 (fm p) (sn hs).inv;have Sh:=(pq ((fm p).left+1) (fm p) (sn hs).inv jB).1.ok;have SP:=sY p ((fm p).left+1) (fm p);change ((fm p).settle p).Ok at Sh
 change dT _ ((fm p).settle p)at SP
 rw[yp];rw[ZI]at W8;generalize Zu:fm p=R at*;generalize hT:R.settle p=T at*;have QC:=SP.ak;have Q4:=SP.heap;have TA:∀i,aB [(4,.var 29 (bp p)),(5,.var 39 [AV.raw (.slice none 0 0),.raw (.slice none 0 0),rI 0,.raw (.slice none 0 0),rI 0,rI 0,rI 0]),(0,.var 141 (aK p++(RS.of qJ).c++[ax eI 1 [],rI 0])),(1,.aG 87 3 []),(2,.aG 22 1 []),(3,.aG 9 1 [])] i=aB (aI p [] 0 (RS.of qJ) [(4,.var 29 (bp p)),(5,.var 39 [AV.raw (.slice none 0 0),.raw (.slice none 0 0),rI 0,.raw (.slice none 0 0),rI 0,rI 0,rI 0])]) i:=fun i=>by
  show aB [_,_,_,_,_,_] i=aB [_,_,_,_,_,_] i;simp only[aB];repeat' split
  all_goals first
   |rfl
   |omega
 refine bI func31 ntmps31 ?_
 (repeat' (first|(refine gj (cY.fL 1 0 6 87 3 rfl jC rfl rfl) ?_)|(refine gj (cY.fL 2 0 7 22 1 rfl jC rfl rfl) ?_)|(refine gj (cY.fL 3 0 9 9 1 rfl jC rfl rfl) ?_)|(refine gj (cY.zE 0 13 1 (eI default) rfl rfl) ?_)|refine aq fun K hK=>?_|refine am ?_|(refine hK _ _ ?_;clear hK K)|(refine ao ?_ ?_<;>intro hc<;>try exact jz)|refine bz 4 ?_|refine bz 0 ?_|refine bf 5 ?_|refine cp (W7) ?_|(refine rc (R:=RS.of qJ) (R':=R) (pre:=aK p) (post:=[ax eI 1 [],rI 0]) (pre':=aK p) (post':=[ax eI 1 [],rI 0]) (tl:=[(4,.var 29 (bp p)),(5,.var 39 [AV.raw (.slice none 0 0),.raw (.slice none 0 0),rI 0,.raw (.slice none 0 0),rI 0,rI 0,rI 0])]) W8 rfl TA (Nat.zero_le _) (Nat.zero_le _) rfl rfl aM rfl jD ?_;refine S ?_)|(refine rE N' rfl ?_;try refine S ?_)|refine ap ?_|exact jI|(clear hK K)))
 exact oO [.cell 2 39] rfl (bc.agg (ds:=bv T.st) (RS.qo (t:=141) (pre:=aK p) (post:=[ax eI 1 [],rI 0]) (R:=T) Sh fun _=>rfl))
@[go_sem] def j4F(s:aw):List.drop 7 (bv s)=[]:=(rfl)
attribute [go_sem] List.append_nil
def bC.own(hs:bY p)(h:bC p s):af prog 230 [.agg (bv s)] [] (fun r l=>r=.agg (RS.of s).c/\l=(RS.of s).rows):=by
 have h1:s.ah.length<=8:=h.inv.ak;have h2:=gX s.heap;have h3:=h.cells;refine NY s jB jB (by have:=h.outs;omega) (fun k hk=>?_) fun k hk=>?_
 ·have hf:dM p (nth s.ah k):=h.inv.fr k hk;have:=hf.len hs;exact⟨by have:=(hs.av (nth s.ah k).fn.toNat (by have:=hf.f0;have:=hf.f1;omega)).hi;have:=hf.sl;omega,jB⟩
 ·have:=sZ s.heap k hk;omega
def vh(hs:bY p)(h:bC p s):aA prog 230 [.agg (bv s)] (.agg (bv s)):=by have:=aA.Gj (bC.own hs h) (RS.u0 h.inv.ok);rw[RS.dt]at this;exact this
def Hu(hs:bY p)(h:bC p s)(inp:PY)(hn:inp.length<=1000)(h0:bq p s<0):aA prog 228 [.agg (bp p),.agg (bv s),ax eI 1 inp] (.agg (bv s)):=by
 have Rm:=sI hs h;have R6:=vh hs h;generalize bq p s=a at*;refine bI func228 ntmps228 ?_
 (repeat' (first|refine aq fun K hK=>?_|refine am ?_|(with_reducible refine gR 9 ?_);refine dQ 9 mixed ?_|(refine hK _ _ ?_;clear hK K)|(refine ao ?_ ?_<;>intro hc<;>try exact jz)|refine bz 4 ?_|refine bz 5 ?_|refine bf 6 ?_|refine cp (Rm) ?_|refine cp (R6) ?_|(refine cn ?_ ?_<;>intro hc<;>try exact jz)|refine ap ?_|exact jI|(clear hK K)))
 (refine aY [.cell 6 39] ?_;try simp only[go_sem])
def IY(hs:bY p)(h:bC p s)(inp:PY)(hn:inp.length<=1000)(h0:¬bq p s<0)(hw:ik p s (bq p s) inp):aA prog 228 [.agg (bp p),.agg (bv s),ax eI 1 inp] (.agg (bv { s with status:=1 })):=by
 have Rm:=sI hs h;have R6:=vh hs h;have h2:¬(s.status=2\/s.status=3):=fun hh=>h0 (by unfold bq;rw[if_pos hh];decide)
 have hd:=h.eF (fun hh=>h2 (.inl hh)) 0 jC;have QF:aW p (RS.of { s with status:=0 }).st=bq p s:=by rw[RS.dt];unfold bq;rw[if_neg h2];rfl
 obtain⟨s0,s1,s2,s3,s4,s5⟩:=hd.stmt hs;rw[QF]at s0 s1;have T7:=h.iS;have Vq:=h.jd;have VR:=Es hs (bq p s) ((inp.length:Int)-s.in_) s0 s1 (by unfold bn;omega);obtain⟨Qr,Vs,Ra⟩:=hw;rw[decide_eq_true ⟨jB,Qr,Vs⟩]at VR;generalize bq p s=a at*;refine bI func228 ntmps228 ?_
 (repeat' (first|refine aq fun K hK=>?_|refine am ?_|(with_reducible refine gR 9 ?_);refine dQ 9 mixed ?_|(refine hK _ _ ?_;clear hK K)|(refine ao ?_ ?_<;>intro hc<;>try exact jz)|refine bz 4 ?_|refine bz 5 ?_|refine bf 6 ?_|refine cp (Rm) ?_|refine cp (VR) ?_|refine cp (R6) ?_|(refine cn ?_ ?_<;>intro hc<;>try exact jz)|refine ap ?_|exact jI|(clear hK K)))
 (refine aY [.cell 6 39] ?_;try simp only[go_sem])
def IB(hs:bY p)(h:bC p s)(inp:PY)(hn:inp.length<=1000)(ht:0<=s.time/\s.time<=1000000)(h0:¬bq p s<0)(hw:¬ik p s (bq p s) inp)
  (Sb:∀x:Int,0<=x->x.toNat<p.aa.nodes.length->cr (bJ p.aa.nodes x)->bn ((RS.of { s with status:=0 }).val p x).1.n):aA prog 228 [.agg (bp p),.agg (bv s),ax eI 1 inp] (.agg (bv (dO p s inp))):=by
 have Rm:=sI hs h;have R6:=vh hs h;have h2:¬(s.status=2\/s.status=3):=fun hh=>h0 (by unfold bq;rw[if_pos hh];decide)
 have WB:bC p { s with status:=0 }:=h.with (fun hh=>h2 (.inl hh)) 0 s.bL s.time
 have TE:=bC.own hs WB;have hd:=h.eF (fun hh=>h2 (.inl hh)) 0 jC;have J':(RS.of { s with status:=0 }).st={ s with status:=0 }:=RS.dt _;have QF:aW p (RS.of { s with status:=0 }).st=bq p s:=by rw[RS.dt];unfold bq;rw[if_neg h2];rfl
 obtain⟨s0,s1,s2,s3,s4,s5⟩:=hd.stmt hs;have T7:=h.iS;have Vq:=h.jd;have VR:=Es hs (bq p s) ((inp.length:Int)-s.in_) (by rw[<-QF];exact s0) (by rw[<-QF];exact s1) (by unfold bn;omega);rw[decide_eq_false (fun⟨a,b,c⟩=>hw ⟨b,c,jB⟩)]at VR;have SE:=Ik hs inp hn _ hd (by rw[QF,J'];exact hw) Sb ((RS.of { s with status:=0 }).bF p (aW p (RS.of { s with status:=0 }).st) inp).1 ((RS.of { s with status:=0 }).bF p (aW p (RS.of { s with status:=0 }).st) inp).2 rfl;have Wq:=hd.bF hs hn (by rw[QF,J'];exact hw);rw[QF]at SE Wq;unfold dO;rw[if_neg h0,if_neg hw];simp only;have RP:=vY (RS.of { s with status:=0 }) p (bq p s) inp;generalize (RS.of { s with status:=0 }).bF p (bq p s) inp=D at*;generalize bq p s=a at*;have QC:=RP.ak;have Q4:=RP.heap;have W0:D.1.time=s.time:=RP.time;have TA:∀i,aB ((RS.of { s with status:=0 }).cI [(4,.var 29 (bp p)),(5,.var 39 (bv { s with status:=0 })),(6,.var 39 [.raw (.slice none 0 0),.raw (.slice none 0 0),rI 0,.raw (.slice none 0 0),rI 0,rI 0,rI 0]),(0,.var 141 (aK p++(RS.of { s with status:=0 }).c++[ax eI 1 inp,rI 0]))]) i=aB (aI p inp 0 (RS.of { s with status:=0 }) [(4,.var 29 (bp p)),(5,.var 39 (bv { s with status:=0 })),(6,.var 39 [.raw (.slice none 0 0),.raw (.slice none 0 0),rI 0,.raw (.slice none 0 0),rI 0,rI 0,rI 0])]) i:=RS.kc (R:=RS.of { s with status:=0 }) rfl rfl fun i hi=>by simp only[aB,if_neg hi]
 by_cases hz:D.2=0
 ·rw[if_neg (fun e=>e hz)];have hD:=Wq hz;rw[hz]at SE;have N':=GD hs inp 0 { D.1 with time:=s.time+1 } ⟨⟨hD.inv.ok.nf,hD.inv.ok.jp⟩,hD.inv.ak,hD.inv.fr,hD.inv.busy,hD.inv.go⟩;have SP:=sY p (RS.left { D.1 with time:=s.time+1 }+1) { D.1 with time:=s.time+1 };change dT _ (({ D.1 with time:=s.time+1 }:RS).settle p)at SP
  have Sh:(({ D.1 with time:=s.time+1 }:RS).settle p).Ok:=(pq (RS.left { D.1 with time:=s.time+1 }+1) { D.1 with time:=s.time+1 } ⟨⟨hD.inv.ok.nf,hD.inv.ok.jp⟩,hD.inv.ak,hD.inv.fr,hD.inv.busy,hD.inv.go⟩ jB).1.ok;generalize hT:({ D.1 with time:=s.time+1 }:RS).settle p=T at*;have hl3:D.1.ak.length<=T.ak.length:=SP.ak;have hl4:D.1.heap.length<=T.heap.length:=SP.heap;refine bI func228 ntmps228 ?_
  (have W:=W0;repeat' (first|refine aq fun K hK=>?_|refine am ?_|(with_reducible refine gR 9 ?_);refine dC 9 ([],[],[30]) [] [0,1,3,2,4,5,6] mixed ?_|(refine hK _ _ ?_;clear hK K)|(refine ao ?_ ?_<;>intro hc<;>try exact jz)|refine bz 4 ?_|refine bz 5 ?_|refine bf 6 ?_|refine bz 0 ?_|refine cp (Rm) ?_|refine cp (R6) ?_|refine cp (VR) ?_|(refine DS (R:=RS.of { s with status:=0 }) TE rfl ?_;try refine S ?_)|(refine rc (R:=RS.of { s with status:=0 }) (R':=D.1) (pre:=aK p) (post:=[ax eI 1 inp,rI 0]) (pre':=aK p) (post':=[ax eI 1 inp,rI 0]) (tl:=[(4,.var 29 (bp p)),(5,.var 39 (bv { s with status:=0 })),(6,.var 39 [.raw (.slice none 0 0),.raw (.slice none 0 0),rI 0,.raw (.slice none 0 0),rI 0,rI 0,rI 0])]) SE rfl TA QC Q4 rfl rfl aM rfl jD ?_;try refine S ?_)|(refine rE (R:={ D.1 with time:=s.time+1 }) N' rfl ?_;try refine S ?_)|(refine cn ?_ ?_<;>intro hc<;>try exact jz)|refine ap ?_|exact jI|(clear hK K)))
  exact oO [.cell 6 39] rfl (bc.agg (ds:=bv T.st) (RS.qo (t:=141) (pre:=aK p) (post:=[ax eI 1 inp,rI 0]) (R:=T) Sh fun _=>rfl))
 ·rw[if_pos hz];have Rq:=eq_false hz;have Wr:bv { s with status:=0 }=[ax fa 3 s.ah,ax gu 1 s.heap,rI s.in_,ax eS 1 s.aS,rI 0,rI s.bL,rI s.time]:=rfl;refine bI func228 ntmps228 ?_
  (have W:=jA Rq Wr;repeat' (first|refine aq fun K hK=>?_|refine am ?_|(with_reducible refine gR 9 ?_);refine dC 9 ([],[],[30]) [] [0,1,3,2,4,5,6] mixed ?_|(refine hK _ _ ?_;clear hK K)|(refine ao ?_ ?_<;>intro hc<;>try exact jz)|refine bz 4 ?_|refine bz 5 ?_|refine bf 6 ?_|refine bz 0 ?_|refine cp (Rm) ?_|refine cp (R6) ?_|refine cp (VR) ?_|(refine DS (R:=RS.of { s with status:=0 }) TE rfl ?_;try refine S ?_)|(refine rc (R:=RS.of { s with status:=0 }) (R':=D.1) (pre:=aK p) (post:=[ax eI 1 inp,rI 0]) (pre':=aK p) (post':=[ax eI 1 inp,rI D.2]) (tl:=[(4,.var 29 (bp p)),(5,.var 39 (bv { s with status:=0 })),(6,.var 39 [.raw (.slice none 0 0),.raw (.slice none 0 0),rI 0,.raw (.slice none 0 0),rI 0,rI 0,rI 0])]) SE rfl TA QC Q4 rfl rfl aM rfl jD ?_;try refine S ?_)|(refine cn ?_ ?_<;>intro hc<;>try exact jz)|refine ap ?_|exact jI|(clear hK K)))
  exact oO [.cell 6 39] rfl (.same (.agg (bv { s with status:=3,bL:=D.2,time:=s.time+1 })) (by simp only[AV.all];exact qW _ _))
def Pv(hs:bY p){n:Nat}(h:gh p n s)(S3:n<=1000000)(inp:PY)(hn:inp.length<=1000):aA prog 228 [.agg (bp p),.agg (bv s),ax eI 1 inp] (.agg (bv (dO p s inp))):=by
 have Sb:∀x:Int,0<=x->x.toNat<p.aa.nodes.length->cr (bJ p.aa.nodes x)->bn ((RS.of { s with status:=0 }).val p x).1.n:=fun x h0 hl hE=>bN.val hs (R:=RS.of { s with status:=0 }) ⟨h.bn.sl,h.bn.hp⟩ h.inv.cells h0 hl hE
 by_cases h0:bq p s<0
 ·have:=Hu hs h.inv inp hn h0;unfold dO;rw[if_pos h0];exact this
 by_cases hw:ik p s (bq p s) inp
 ·have:=IY hs h.inv inp hn h0 hw;unfold dO;rw[if_neg h0,if_pos hw];exact this
 exact IB hs h.inv inp hn ⟨h.t0,by have:=h.t1;omega⟩ h0 hw Sb
end Go.Proofs.YtghoellpinmenaaGreatDoor