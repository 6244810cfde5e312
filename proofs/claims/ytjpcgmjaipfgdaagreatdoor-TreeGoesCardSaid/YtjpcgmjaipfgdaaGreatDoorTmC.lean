/- Lemmas. No conditions. -/
import Derived.Test.YtjpcgmjaipfgdaaGreatDoorTrR
import Derived.Test.YtjpcgmjaipfgdaaGreatDoorTmX
set_option linter.all false
set_option maxHeartbeats 4000000
set_option maxRecDepth 10000
namespace Go.Gd
open Go
abbrev VS:=List bD×List bD
def rl(x:bD)(s:VS):VS:=(s.1++[x],s.2.drop 1)
def nW(m:Nat)(s:VS):VS:=(s.1.take m,s.1.drop m++s.2)
def kz(w:Int->VS->Bool×VS):TD->VS->Bool×VS
 |[],s=>(false,s)
 |b::l,s=>if(w b s).1=true then(true,(w b s).2)else kz w l (w b s).2
def mz(w:Int->VS->Bool×VS)(p:af)(node:Int):TD->VS->Bool×VS
 |[],s=>(false,s)
 |x::l,s=>
  if x=node then(true,s)
  else if(ak p x).kind=10 then mz w p node l (rl (p4 p x) s)
  else if(ak p x).kind=15\/(ak p x).kind=16 then
   (if(kz w ((ak p x).l.drop 1) s).1=true then(true,(kz w ((ak p x).l.drop 1) s).2)else mz w p node l (kz w ((ak p x).l.drop 1) s).2)
  else mz w p node l s
def jb(p:af)(node:Int):Nat->Int->VS->Bool×VS
 |0,_,s=>(false,s)
 |n+1,b,s=>if(mz (jb p node n) p node (ak p b).l s).1=true then mz (jb p node n) p node (ak p b).l s else(false,nW s.1.length (mz (jb p node n) p node (ak p b).l s).2)
def wy(s:VS)(o:Option (List bD))(r:Bool×VS):Prop:=match o with
 |some R=>r.1=true/\r.2.1=R
 |none=>r.1=false/\r.2.1=s.1
theorem EZ{w:Int->VS->Bool×VS}{v:Int->List bD->Option (List bD)}(h:∀b s,wy s (v b s.1) (w b s)):∀(l:TD) (s:VS),wy s (o7 v s.1 l) (kz w l s)
 |[],s=>⟨rfl,rfl⟩
 |b::l,s=>by
  have hb:=h b s;unfold o7 kz;cases e:v b s.1 with
  |some R=> rw[e]at hb;rw[if_pos hb.1];exact⟨rfl,hb.2⟩
  |none=>
   rw[e]at hb;rw[if_neg (by rw[hb.1];decide),Option.none_or];have:=EZ h l (w b s).2;rw[hb.2]at this;unfold wy at this ⊢;rw[<-hb.2];rw[hb.2];cases e2:o7 v s.1 l with
   |some R=>rw[e2]at this;exact this
   |none=>rw[e2]at this;exact⟨this.1,this.2.trans hb.2⟩
def Ro(s:VS)(o:Option (List bD))(r:Bool×VS):Prop:=match o with
 |some R=>r.1=true/\r.2.1=R
 |none=>r.1=false/\r.2.1.take s.1.length=s.1
theorem zT{p:af}{node:Int}{w:Int->VS->Bool×VS}{v:Int->List bD->Option (List bD)}(h:∀b s,wy s (v b s.1) (w b s)):∀(l:TD) (s:VS),Ro s (pK v p node l s.1) (mz w p node l s)
 |[],s=>⟨rfl,List.take_length⟩
 |x::l,s=>by
  unfold pK mz;by_cases hx:x=node
  ·rw[if_pos hx,if_pos hx];exact⟨rfl,rfl⟩
  rw[if_neg hx,if_neg hx];by_cases k10:(ak p x).kind=10
  ·rw[if_pos k10,jN,Option.none_or];have:=zT (p:=p) (node:=node) h l (rl (p4 p x) s);have e:(rl (p4 p x) s).1=lO p x s.1:=by unfold lO;rw[if_pos k10];rfl
   rw[e]at this;cases e2:pK v p node l (lO p x s.1)with
   |some R=>rw[e2]at this;exact this
   |none=>
    rw[e2]at this;refine⟨this.1,?_⟩;have h2:=this.2;rw[e]at h2;have h3:(lO p x s.1).take s.1.length=s.1:=by unfold lO;rw[if_pos k10,List.take_left]
    have hl:s.1.length<=(lO p x s.1).length:=by unfold lO;rw[if_pos k10];simp
    have h4:(mz w p node l (rl (p4 p x) s)).2.1.take s.1.length=((mz w p node l (rl (p4 p x) s)).2.1.take (lO p x s.1).length).take s.1.length:=by rw[List.take_take,Nat.min_eq_left hl]
    rw[h4,h2,h3]
  rw[if_neg k10];have hl:lO p x s.1=s.1:=by unfold lO;rw[if_neg k10]
  rw[hl];by_cases kb:(ak p x).kind=15\/(ak p x).kind=16
  ·rw[if_pos kb,if_pos kb];have hk:=EZ h ((ak p x).l.drop 1) s;cases e:o7 v s.1 ((ak p x).l.drop 1)with
   |some R=>rw[e]at hk;rw[if_pos hk.1];exact⟨rfl,hk.2⟩
   |none=>
    rw[e]at hk;rw[if_neg (by rw[hk.1];decide),Option.none_or];have:=zT (p:=p) (node:=node) h l (kz w ((ak p x).l.drop 1) s).2;rw[hk.2]at this;cases e2:pK v p node l s.1 with
    |some R=>rw[e2]at this;exact this
    |none=>rw[e2]at this;refine⟨this.1,?_⟩;have h2:=this.2;rw[hk.2]at h2;exact h2
  ·rw[if_neg kb,if_neg kb,Option.none_or];exact zT (p:=p) (node:=node) h l s
theorem Ai{p:af}{node:Int}:∀(n:Nat) (b:Int) (s:VS),wy s (lw p node n b s.1) (jb p node n b s)
 |0,b,s=>⟨rfl,rfl⟩
 |n+1,b,s=>by
  have:=zT (p:=p) (node:=node) (Ai (p:=p) (node:=node) n) (ak p b).l s;unfold lw jb;cases e:pK (lw p node n) p node (ak p b).l s.1 with
  |some R=>rw[e]at this;rw[if_pos this.1];exact this
  |none=>rw[e]at this;rw[if_neg (by rw[this.1];decide)];exact⟨rfl,this.2⟩
def kT(s:VS):Nat:=s.1.length+s.2.length
def EV(x:bD)(s:VS){T:Nat}(h:kT s<=T)(h1:s.1.length+1<=T):kT (rl x s)<=T:=by unfold kT rl at*;simp only[List.length_append,List.length_cons,List.length_nil,List.length_drop];omega
def QM(m:Nat)(s:VS):kT (nW m s)=kT s:=by unfold kT nW;simp only[List.length_append,List.length_take,List.length_drop];omega
def Du{p:af}{node:Int}{n:Nat}{b:Int}{s:VS}(h:(jb p node n b s).1=false):(jb p node n b s).2.1=s.1:=by
 have:=Ai (p:=p) (node:=node) n b s;cases e:lw p node n b s.1 with
 |some R=>rw[e]at this;rw[this.1]at h;cases h
 |none=>rw[e]at this;exact this.2
def qa(w:Int->VS->Bool×VS):TD->VS->Int->Int
 |[],_,_=>-1
 |b::l,s,i=>if(w b s).1=true then i else qa w l (w b s).2 (i+1)
theorem Jd(w:Int->VS->Bool×VS):∀(l:TD) (s:VS) (i:Int),0<=i->(kz w l s).1=decide (0<=qa w l s i)
 |[],s,i,_=>rfl
 |b::l,s,i,h=>by
  unfold kz qa;split
  ·exact(decide_eq_true h).symm
  ·exact Jd w l _ (i+1) jB
def DF(w:Int->VS->Bool×VS)(b:Int)(l:TD)(s:VS):kz w (b::l) s=if(w b s).1=true then(true,(w b s).2)else kz w l (w b s).2:=by conv=>lhs;unfold kz
def Q9(w:Int->VS->Bool×VS)(b:Int)(l:TD)(s:VS)(i:Int):qa w (b::l) s i=if(w b s).1=true then i else qa w l (w b s).2 (i+1):=by conv=>lhs;unfold qa
@[go_sem] def j1Z(f:FuncId)(cs:TB):(AV.dP f cs).cells=[.dP f cs]:=(rfl)
@[go_sem] def j7y(f:FuncId)(cs:TB):(AV.dP f cs).one=true:=by simp[AV.one]
variable{nm:TF}
def PS{ty:Int}{l:List bD}{k:Nat}(hk:k<l.length)(T8:(nth l k).name=nm/\(nth l k).ty=ty)(Te:∀j,j<k->¬((nth l j).name=nm/\(nth l j).ty=ty)):ik nm ty l 0=(k:Int):=by
 by_cases h:0<=ik nm ty l 0
 ·obtain⟨j,e,hj,g,f⟩:=y6 nm ty l 0 h;have e:ik nm ty l 0=0+(j:Int):=e;rcases Nat.lt_trichotomy j k with c|c|c
  ·exact(Te j c g).elim
  ·omega
  ·exact(f k c T8).elim
 ·exact(HA nm ty l 0 (by show ik nm ty l 0<0;omega) k hk T8).elim
def RK{ty:Int}{l:List bD}(Te:∀j,j<l.length->¬((nth l j).name=nm/\(nth l j).ty=ty)):ik nm ty l 0=-1:=by
 rcases Fh nm ty l 0 (Int.le_refl 0)with e|⟨a,b⟩
 ·exact e
 ·obtain⟨j,e,hj,g,f⟩:=y6 nm ty l 0 a;exact(Te j hj g).elim
def Dm{P:TL}{f:FuncId}{args:TB}{s L:TA}{B:TE}{K:S8}{r0:AV}(hc:ab P f args s fun r l=>r=r0/\l=s)(hs:∀i r,aA s i=some r->aA L i=some r)(ha:aW (fun i=>(ids s).contains i) args=true)(Tc:∀i r,aA s i=some r->aW (fun i=>(ids s).contains i) r.cells=true)(hn:(ids s).Nodup)(k:K r0 ⟨B,L⟩)(h0:aT P f=true:=by exact du):ff P (.raw (.func (.func f) #[] #[])) args ⟨B,L⟩ K:=by
 refine nG h0 fun w vs h1 h3=>?_
 refine(yu (H:=⟨B,L⟩) (K:=fun r H'=>r=r0/\∃l',H'=⟨B,l'⟩/\∀i,aA l' i=aA L i) hc hs ha Tc (fun r l' ⟨e1,e2⟩=>⟨fun i s' WG=>?_,by rw[e2];exact hn,e1,_,rfl,fun i=>?_⟩) h1 h3).mono ?_
 ·subst e2;exact .inl (qY WG)
 ·subst e2;rw[ut _ _ _ (fun _ _ _=>trivial) hn];cases e:aA l' i with
  |none=>rfl
  |some x=>rw[hs i x e];rfl
 ·rintro e W ⟨v,r,H',w',rfl,rfl,⟨rfl,l',rfl,UL⟩,g1,g2,g3⟩;exact⟨v,_,⟨B,L⟩,w',rfl,rfl,k,zV UL g1,g2,{ g3 with base:=g3.base }⟩
theorem EA{p:af}{node:Int}(hl:∀b,(ak p b).l.length<=300):∀(n:Nat) (b:Int) (vars r:List bD),lw p node n b vars=some r->r.length<=vars.length+300*n
 |0,b,vars,r,h=>by cases h
 |n+1,b,vars,r,h=>by
  have ih:=EA (node:=node) hl n;have aE:∀(l:TD) (vs r:List bD),o7 (lw p node n) vs l=some r->r.length<=vs.length+300*n:=fun l=>by
   induction l with
   |nil=>intro vs r h;cases h
   |cons b l ihl=>
    intro vs r h;unfold o7 at h;cases e:lw p node n b vs with
    |none=>rw[e]at h;exact ihl vs r h
    |some R=>rw[e]at h;cases h;exact ih b vs _ e
  have sc:∀(l:TD) (vs r:List bD),pK (lw p node n) p node l vs=some r->r.length<=vs.length+l.length+300*n:=fun l=>by
   induction l with
   |nil=>intro vs r h;cases h
   |cons x l ihl=>
    intro vs r h;have YV:(lO p x vs).length<=vs.length+1:=by unfold lO;split<;>simp
    unfold pK at h;simp only[List.length_cons];split at h
    ·cases h;omega
    ·cases e:(if(ak p x).kind=15\/(ak p x).kind=16 then o7 (lw p node n) (lO p x vs) ((ak p x).l.drop 1)else none)with
     |none=>rw[e]at h;have:=ihl _ r h;omega
     |some R=>
      rw[e]at h;cases h;split at e
      ·have:=aE _ _ _ e;omega
      ·cases e
  have:=sc _ _ _ h;have:=hl b;omega
end Go.Gd
namespace Go.Proofs.YtjpcgmjaipfgdaaGreatDoor
open Go Go.Gd Tryz
theorem BZ{p:af}{node:Int}{n:Nat}{T B:Nat}(hw:∀b s,0<=b->b.toNat<B->bX p.aa.nodes b=18->kT s<=1000000->s.1.length<=T->kT (jb p node n b s).2<=1000000):∀(l:TD) (s:VS),(∀b∈l,0<=b/\b.toNat<B/\bX p.aa.nodes b=18)->kT s<=1000000->s.1.length<=T->kT (kz (jb p node n) l s).2<=1000000/\((kz (jb p node n) l s).1=false->(kz (jb p node n) l s).2.1=s.1)
 |[],s,_,h,_=>⟨h,fun _=>rfl⟩
 |b::l,s,hl,h,h1=>by
  obtain⟨b0,b1,b2⟩:=hl b jE;have hb:=hw b s b0 b1 b2 h h1;rw[DF];by_cases e:(jb p node n b s).1=true
  ·rw[if_pos e];exact⟨hb,fun h=>by cases h⟩
  ·rw[if_neg e];have e1:=Du (Bool.not_eq_true _ ▸ e);have:=BZ hw l (jb p node n b s).2 (fun b hb=>hl b (by simp[hb])) hb (by rw[e1];exact h1);exact⟨this.1,fun h=>(this.2 h).trans e1⟩
theorem Cz{p:af}(h:py p)(node:Int):∀(n:Nat) (b:Int) (s:VS),0<=b->b.toNat<p.aa.nodes.length->bX p.aa.nodes b=18->kT s<=1000000->s.1.length+300*b.toNat<=900000->kT (jb p node n b s).2<=1000000
 |0,b,s,_,_,_,ht,_=>ht
 |n+1,b,s,h0,hl,hk,ht,h1=>by
  have sh:=h.aa.shape b.toNat hl;have YU:=yz h b;have sc:∀(l:TD) (t:VS),(∀x∈l,x∈(ak p b).l)->kT t<=1000000->t.1.length+l.length<=s.1.length+300->kT (mz (jb p node n) p node l t).2<=1000000:=fun l=>by
   induction l with
   |nil=>intro t _ g _;exact g
   |cons x l ih=>
    intro t hx g g1;have hxb:=sh.2.1 x (hx x jE);have XF:x.toNat<p.aa.nodes.length:=jB;have shx:=h.aa.shape x.toNat XF;simp only[List.length_cons]at g1;have TW:∀y∈l,y∈(ak p b).l:=fun y hy=>hx y (by simp[hy])
    unfold mz;split
    ·exact g
    split
    ·exact ih _ TW (EV _ _ g jB) (by show(t.1++[_]).length+_<=_;simp;omega)
    split
    ·rename_i kb;have T3:∀y∈(ak p x).l.drop 1,0<=y/\y.toNat<x.toNat/\bX p.aa.nodes y=18:=fun y hy=>by
      have XX:y∈(nth p.aa.nodes x.toNat).l:=List.mem_of_mem_drop hy;have YW:=shx.2.1 y XX;refine⟨YW.1,YW.2,?_⟩;have hy:y∈(nth p.aa.nodes x.toNat).l.drop 1:=hy;rcases kb with kb|kb
      ·obtain⟨a,c,_,hb,hl|⟨d,hl,hd⟩⟩:=shx.1.lC kb
       ·rw[hl]at hy;simp at hy;subst hy;exact hb
       ·rw[hl]at hy;simp at hy;rcases hy with rfl|rfl
        ·exact hb
        ·exact hd
      ·obtain⟨a,c,hl,_,hb⟩:=shx.1.dX kb;rw[hl]at hy;simp at hy;subst hy;exact hb
     have Yl:=BZ (p:=p) (node:=node) (n:=n) (T:=s.1.length+300) (B:=x.toNat) (fun c u c0 c1 c2 c3 c4=>Cz h node n c u c0 jB c2 c3 jB) ((ak p x).l.drop 1) t T3 g jB;split
     ·exact Yl.1
     ·rename_i e;have e1:=Yl.2 (Bool.not_eq_true _ ▸ e);exact ih _ TW Yl.1 (by rw[e1];omega)
    ·exact ih _ TW g jB
  have:=sc (ak p b).l s (fun x hx=>hx) ht jB;unfold jb;split
  ·exact this
  ·rw[QM];exact this
abbrev rY:TB:=[.pt 3 0 0 0,.pt 1 0 0 0,.pt 2 0 0 0,.pt 7 0 0 0]
def fE(p:af)(node:Int)(s:VS):TA:=[(1,.var 32 (ci p)),(2,.var 3 [rI node]),(3,.var 184 [.rs 4 (s.1.length+s.2.length) 3 s.1.length]),(4,.aF 258 3 ((s.1++s.2).map kY)),(7,.var 178 [.dP 221 rY])]
attribute [go_sem] fE
def QI{p:af}(node:Int)(w:Int->VS->Bool×VS)(L:TD)(s0:VS)(I:VS->Prop)(hL:L.length<=300)(hI0:I s0)
  (hw:∀b∈L,∀s,I s->ab prog 221 (rI b::rY) (fE p node s) (fun r l'=>r=rB (w b s).1/\l'=fE p node (w b s).2)) (hI:∀b∈L,∀s,I s->(w b s).1=false->I (w b s).2) :
  ab prog 246 [aM eI 1 L,.dP 221 rY] (fE p node s0) (fun r l'=>r=rI (qa w L s0 0)/\l'=fE p node (kz w L s0).2):=by
 suffices key:∀(sR:VS) (iR:Int),sR=(kz w L s0).2->iR=qa w L s0 0->ab prog 246 [aM eI 1 L,.dP 221 rY] (fE p node s0) (fun r l'=>r=rI iR/\l'=fE p node sR) from key _ _ rfl rfl
 intro sR iR XA hiR;refine aL func246 ntmps246 ?_;refine S ?_
 (repeat' (first|refine aq fun K hK=>?_|refine au ?_|(refine hK _ _ ?_;clear hK K)|(refine ap ?_ ?_<;>intro hc<;>try exact jz)|refine ar ?_|exact jI|(clear hK K)))
 have Tk:=hK;clear hK;refine eu (S:=Nat×VS) [(4,2),(8,11)] (fun t=>t.1<=L.length/\I t.2/\qa w (L.drop t.1) t.2 t.1=iR/\(kz w (L.drop t.1) t.2).2=sR) (fun t=>[(8,rI t.1)]) (fun t=>⟨[1,2,3,4,7],fE p node t.2⟩) (fun t=>L.length-t.1) (0,s0) ⟨Nat.zero_le _,hI0,hiR.symm,XA.symm⟩ (eD jD cH) ?_;rintro⟨k,s⟩ ⟨hk,hIs,h1,h2⟩ Kr Tg;simp only at hk hIs h1 h2 ⊢;by_cases O':k<L.length
 ·have W7:=hw _ (fh O') s hIs;have hIk:=hI _ (fh O') s hIs;rw[kQ O',Q9]at h1;rw[kQ O',DF]at h2;generalize Yr:nth L k=x at*;generalize w x s=r at*;cases hr:r.1 with
  |true=>
   rw[if_pos hr]at h1 h2;simp only at h1 h2;subst h1 h2;rw[hr]at W7;refine S ?_
   (have W:=Yr;repeat' (first|refine aq fun K hK=>?_|refine au ?_|(refine hK _ _ ?_;clear hK K)|(refine ap ?_ ?_<;>intro hc<;>try exact jz)|(refine cl W7 ?_)|refine ar ?_|exact jI|(clear hK K)))
   (refine bW [.tmp 4] ?_ ?_<;>(try simp only[go_sem]))
  |false=>
   rw[if_neg (by rw[hr];decide)]at h1 h2;rw[hr]at W7;refine S ?_
   (have W:=Yr;repeat' (first|refine aq fun K hK=>?_|refine au ?_|(refine hK _ _ ?_;clear hK K)|(refine ap ?_ ?_<;>intro hc<;>try exact jz)|(refine cl W7 ?_)|refine ar ?_|exact jI|(clear hK K)))
   refine Tg _ _ (eJ (k+1,r.2) ⟨by show k+1<=L.length;omega,hIk hr,h1,h2⟩ (by show L.length-(k+1)<L.length-k;omega) jD cH)
 ·have XJ:k=L.length:=jB;subst XJ;rw[List.drop_length]at h1 h2;have h1:iR=-1:=h1.symm;have h2:sR=s:=h2.symm;subst h1 h2;refine S ?_
  (repeat' (first|refine aq fun K hK=>?_|refine au ?_|(refine hK _ _ ?_;clear hK K)|(refine ap ?_ ?_<;>intro hc<;>try exact jz)|refine Tk _ _ ?_|refine ar ?_|exact jI|(clear hK K)))
  (refine bW [.tmp 4] ?_ ?_<;>(try simp only[go_sem]))
def KJ{p:af}(node:Int)(w:Int->VS->Bool×VS)(L:TD)(s0:VS)(I:VS->Prop)(hL:L.length<=300)(hI0:I s0)
  (hw:∀b∈L,∀s,I s->ab prog 221 (rI b::rY) (fE p node s) (fun r l'=>r=rB (w b s).1/\l'=fE p node (w b s).2)) (hI:∀b∈L,∀s,I s->(w b s).1=false->I (w b s).2) :
  ab prog 222 [aM eI 1 L,.dP 221 rY] (fE p node s0) (fun r l'=>r=rB (kz w L s0).1/\l'=fE p node (kz w L s0).2):=by
 have hi:=QI node w L s0 I hL hI0 hw hI;rw[Jd w L s0 0 jB];generalize qa w L s0 0=i at*;generalize (kz w L s0).2=sR at*;refine aL func222 ntmps222 ?_;refine S ?_
 (repeat' (first|refine aq fun K hK=>?_|refine au ?_|(refine hK _ _ ?_;clear hK K)|(refine ap ?_ ?_<;>intro hc<;>try exact jz)|refine cm (hi) ?_|refine ar ?_|exact jI|(clear hK K)))
 (refine bW [.tmp 4] ?_ ?_<;>(try simp only[go_sem]))
theorem G8{p:af}(h:py p)(node:Int):∀(n:Nat) (b:Int) (s:VS),0<=b->b.toNat<p.aa.nodes.length->b.toNat<n->bX p.aa.nodes b=18->kT s<=1000000->s.1.length+300*b.toNat<=900000->
  ab prog 221 (rI b::rY) (fE p node s) (fun r l'=>r=rB (jb p node n b s).1/\l'=fE p node (jb p node n b s).2)
 |0,b,s,h0,hl,hn,hk,ht,h1=>by omega
 |n+1,b,s,h0,hl,hn,hk,ht,h1=>by
  have ih:=G8 h node n;have sh:=h.aa.shape b.toNat hl;have XZ:=sh.1.block hk;have UR:=sh.2.1;have VX:=h.types;have Uq:=h.slots;have YU:=yz h b;have Z0:=h.aa.many;have key:∀(rr:Bool×VS) (sR:VS) (bR:Bool),mz (jb p node n) p node (ak p b).l s=rr->bR=rr.1->sR=(if rr.1=true then rr.2 else nW s.1.length rr.2)->ab prog 221 (rI b::rY) (fE p node s) (fun r l'=>r=rB bR/\l'=fE p node sR):=by
   intro rr sR bR hrr X6 XA;have ZM:(ak p b).l=(nth p.aa.nodes b.toNat).l:=rfl;rw[ZM]at hrr YU;generalize hL:(nth p.aa.nodes b.toNat).l=L at*;unfold kT at ht;refine aL func221 ntmps221 ?_;refine S ?_
   (have W:=hL;repeat' (first|refine aq fun K hK=>?_|refine au ?_|(refine hK _ _ ?_;clear hK K)|(refine ap ?_ ?_<;>intro hc<;>try exact jz)|refine ar ?_|exact jI|(clear hK K)))
   have Tk:=hK;clear hK;refine eu (S:=Nat×VS) [(6,1),(9,2),(21,54)] (fun t=>t.1<=L.length/\kT t.2<=1000000/\t.2.1.length<=s.1.length+t.1/\s.1.length<=t.2.1.length/\mz (jb p node n) p node (L.drop t.1) t.2=rr) (fun t=>[(21,rI t.1),(6,rB false)]) (fun t=>⟨[1,2,3,4,7],fE p node t.2⟩) (fun t=>L.length-t.1) (0,s) ⟨Nat.zero_le _,ht,Nat.le_refl _,Nat.le_refl _,hrr⟩ (eD jD cH) ?_;rintro⟨k,t⟩ ⟨TQ,Zc,htl,htg,Va⟩ Kr Tg;simp only at TQ Zc htl htg Va ⊢;by_cases O':k<L.length
   rotate_left
   ·have XJ:k=L.length:=jB;subst XJ;rw[List.drop_length]at Va;have Va:rr=(false,t):=Va.symm;subst Va;have X6:bR=false:=X6;have XA:sR=nW s.1.length t:=XA;have Tc:(nW s.1.length t).1.length=s.1.length:=by unfold nW;simp;omega
    have UK:(nW s.1.length t).2.length+s.1.length=t.1.length+t.2.length:=by unfold nW;simp;omega
    have U6:(nW s.1.length t).1++(nW s.1.length t).2=t.1++t.2:=by unfold nW;simp[<-List.append_assoc]
    refine S ?_
    (repeat' (first|refine aq fun K hK=>?_|refine au ?_|(refine hK _ _ ?_;clear hK K)|(refine ap ?_ ?_<;>intro hc<;>try exact jz)|refine Tk _ _ ?_|refine ar ?_|exact jI|(clear hK K)))
    subst X6 XA
    (refine bW [.tmp 6] ?_ ?_<;>(try simp only[go_sem]))
    show[_,_,(3,_),(4,_),_]=[_,_,(3,_),(4,_),_];rw[<-List.map_append,<-List.map_append,U6,Tc,show s.1.length+(nW s.1.length t).2.length=t.1.length+t.2.length from jB]
   have hx:=XZ _ (fh O');have YR:=UR _ (fh O');rw[kQ O']at Va;unfold mz at Va;generalize Yr:nth L k=x at*;have XF:x.toNat<p.aa.nodes.length:=jB;have shx:=h.aa.shape x.toNat XF;have XV:ak p x=nth p.aa.nodes x.toNat:=rfl;rw[XV]at Va;by_cases YX:x=node
   ·rw[if_pos YX]at Va;subst Va;have X6:bR=true:=X6;have XA:sR=t:=XA;subst X6 XA;refine S ?_
    (have W:=jA Yr YX;repeat' (first|refine aq fun K hK=>?_|refine au ?_|(refine hK _ _ ?_;clear hK K)|(refine ap ?_ ?_<;>intro hc<;>try exact jz)|refine al 8 ?_|refine ar ?_|exact jI|(clear hK K)))
    (refine aZ [.tmp 6] ?_;try simp only[go_sem])
   rw[if_neg YX]at Va;by_cases k10:(nth p.aa.nodes x.toNat).kind=10
   ·rw[if_pos k10]at Va;obtain⟨a,ha,_⟩:=shx.1.right (.inl k10);have WX:=shx.2.1 a (by rw[ha];simp);have ha0:nth (nth p.aa.nodes x.toNat).l 0=a:=by rw[ha];rfl
    have ha1:(nth p.aa.nodes x.toNat).l.length=1:=by rw[ha];rfl
    unfold kT at Zc;refine S ?_
    (have W:=jA Yr (jA YX (jA k10 (jA ha0 (ha1))));repeat' (first|refine aq fun K hK=>?_|refine au ?_|(with_reducible refine gR 9 ?_);refine dE 9 (bc 0 20) mixed ?_|(refine hK _ _ ?_;clear hK K)|(refine ap ?_ ?_<;>intro hc<;>try exact jz)|refine al 8 ?_|refine rA (enc:=kY) t.1 t.2 [⟨(nth p.aa.nodes x.toNat).name,nth p.types a.toNat,nth p.slots x.toNat⟩] ?_|refine ar ?_|exact jI|(clear hK K)))
    have hvo:(⟨(nth p.aa.nodes x.toNat).name,nth p.types a.toNat,nth p.slots x.toNat⟩:bD)=p4 p x:=by unfold p4;rw[XV,ha0]
    rw[hvo];have Xa:=EV (p4 p x) t (T:=1000000) Zc jB;refine Tg _ _ (pg [8] (k+1,rl (p4 p x) t) ⟨by show k+1<=L.length;omega,Xa,by show(t.1++[_]).length<=s.1.length+(k+1);simp;omega,by show s.1.length<=(t.1++[_]).length;simp;omega,Va⟩ (by show L.length-(k+1)<L.length-k;omega) rfl Sd ?_ jh);unfold fE rl;simp only[List.length_append,List.length_cons,List.length_nil,List.length_drop,List.map_append,List.map_cons,List.map_nil];rfl
   rw[if_neg k10]at Va;by_cases kb:(nth p.aa.nodes x.toNat).kind=15\/(nth p.aa.nodes x.toNat).kind=16
   ·rw[if_pos kb]at Va;have T3:∀y∈(nth p.aa.nodes x.toNat).l.drop 1,0<=y/\y.toNat<x.toNat/\bX p.aa.nodes y=18:=fun y hy=>by
     have XX:y∈(nth p.aa.nodes x.toNat).l:=List.mem_of_mem_drop hy;have YW:=shx.2.1 y XX;refine⟨YW.1,YW.2,?_⟩;rcases kb with kb|kb
     ·obtain⟨a,c,_,hb,hl|⟨d,hl,hd⟩⟩:=shx.1.lC kb
      ·rw[hl]at hy;simp at hy;subst hy;exact hb
      ·rw[hl]at hy;simp at hy;rcases hy with rfl|rfl
       ·exact hb
       ·exact hd
     ·obtain⟨a,c,hl,_,hb⟩:=shx.1.dX kb;rw[hl]at hy;simp at hy;subst hy;exact hb
    have U8:1<=(nth p.aa.nodes x.toNat).l.length:=by
     rcases kb with kb|kb
     ·obtain⟨a,c,_,hb,hl|⟨d,hl,hd⟩⟩:=shx.1.lC kb<;>(rw[hl];simp)
     ·obtain⟨a,c,hl,_,hb⟩:=shx.1.dX kb;rw[hl];simp
    have hdt:List.take ((nth p.aa.nodes x.toNat).l.length-1) (List.drop 1 (nth p.aa.nodes x.toNat).l)=List.drop 1 (nth p.aa.nodes x.toNat).l:=List.take_of_length_le jE;have u':=yz h x;rw[XV]at u';have X7:=KJ (p:=p) node (jb p node n) ((nth p.aa.nodes x.toNat).l.drop 1) t (fun u=>kT u<=1000000/\u.1.length<=s.1.length+300) jF ⟨Zc,jB⟩
     (fun y hy u hu=>ih y u (T3 y hy).1 (by have:=(T3 y hy).2.1;omega) (by have:=(T3 y hy).2.1;omega) (T3 y hy).2.2 hu.1 (by have:=(T3 y hy).2.1;have:=hu.2;omega))
     (fun y hy u hu hf=>⟨Cz h node n y u (T3 y hy).1 (by have:=(T3 y hy).2.1;omega) (T3 y hy).2.2 hu.1 (by have:=(T3 y hy).2.1;have:=hu.2;omega),by rw[Du hf];exact hu.2⟩)
    have Yl:=BZ (p:=p) (node:=node) (n:=n) (T:=s.1.length+300) (B:=x.toNat) (fun c u c0 c1 c2 c3 c4=>Cz h node n c u c0 jB c2 c3 jB) ((nth p.aa.nodes x.toNat).l.drop 1) t T3 Zc jB;generalize kz (jb p node n) ((nth p.aa.nodes x.toNat).l.drop 1) t=KR at*;cases Z1:KR.1 with
    |true=>
     rw[if_pos Z1]at Va;subst Va;have X6:bR=true:=X6;have XA:sR=KR.2:=XA;subst X6 XA;rw[Z1]at X7;refine S ?_
     (have W:=jA Yr (jA YX (jA k10 (hdt)));repeat' (first|refine aq fun K hK=>?_|refine au ?_|(with_reducible refine gR 10 ?_);refine dC 10 ([3,4],[],[72]) [] (bc 0 16) mixed ?_|(refine hK _ _ ?_;clear hK K)|(refine ap ?_ ?_<;>intro hc<;>try exact jz)|refine al 8 ?_|(refine Fg X7 ?_)|(refine bU ?_ ?_<;>intro hc<;>try exact jz)|refine ar ?_|exact jI|(clear hK K)))
     all_goals(refine aZ [.tmp 6] ?_;try simp only[go_sem])
    |false=>
     have Vn:=Yl.2 Z1;rw[if_neg (by rw[Z1];decide)]at Va;rw[Z1]at X7;refine S ?_
     (have W:=jA Yr (jA YX (jA k10 (hdt)));repeat' (first|refine aq fun K hK=>?_|refine au ?_|(with_reducible refine gR 10 ?_);refine dC 10 ([3,4],[],[72]) [] (bc 0 16) mixed ?_|(refine hK _ _ ?_;clear hK K)|(refine ap ?_ ?_<;>intro hc<;>try exact jz)|refine al 8 ?_|(refine Fg X7 ?_)|(refine bU ?_ ?_<;>intro hc<;>try exact jz)|refine ar ?_|exact jI|(clear hK K)))
     all_goals refine Tg _ _ (pg [8] (k+1,KR.2) ⟨by show k+1<=L.length;omega,Yl.1,by show KR.2.1.length<=s.1.length+(k+1);rw[Vn];omega,by show s.1.length<=KR.2.1.length;rw[Vn];omega,Va⟩ (by show L.length-(k+1)<L.length-k;omega) rfl Sd (by simp only[go_sem];(try rfl)) jh)
   ·rw[if_neg kb]at Va;have kb1:¬(nth p.aa.nodes x.toNat).kind=15:=fun h=>kb (.inl h)
    have kb2:¬(nth p.aa.nodes x.toNat).kind=16:=fun h=>kb (.inr h)
    refine S ?_
    (have W:=jA Yr (jA YX (jA k10 (jA kb1 (kb2))));repeat' (first|refine aq fun K hK=>?_|refine au ?_|(with_reducible refine gR 10 ?_);refine dC 10 ([3,4],[],[72]) [] (bc 0 16) mixed ?_|(refine hK _ _ ?_;clear hK K)|(refine ap ?_ ?_<;>intro hc<;>try exact jz)|refine al 8 ?_|refine ar ?_|exact jI|(clear hK K)))
    refine Tg _ _ (pg [8] (k+1,t) ⟨by show k+1<=L.length;omega,Zc,by show t.1.length<=s.1.length+(k+1);omega,htg,Va⟩ (by show L.length-(k+1)<L.length-k;omega) rfl Sd (by simp only[go_sem];(try rfl)) jh)
  have Tl:=key _ _ _ rfl rfl rfl;unfold jb;cases e:(mz (jb p node n) p node (ak p b).l s).1 with
  |true=>rw[e]at Tl;simp only[if_true]at Tl ⊢;rw[e];exact Tl
  |false=>rw[e]at Tl;simp only[Bool.false_eq_true,if_false]at Tl ⊢;exact Tl
def Gu{p:af}(h:py p)(UA:∀k,k<p.aa.nodes.length->0<=nth p.fn k/\nth p.fn k<p.aa.av.length)(node:Int)(h0:0<=node)(h1:node.toNat<p.aa.nodes.length):aB prog 171 [.agg (ci p),rI node] (aM kY 3 (gS p node)):=by
 obtain⟨f0,f1⟩:=UA _ h1;have hlf:=h.fn;have Z0:=h.aa.many;have XB:(nth p.fn node.toNat).toNat<p.aa.av.length:=jB;have UI:=oV h.aa XB;have Wl:=h.aa.body _ (fh XB);have hps:=(h.aa.fn _ (fh XB)).2;have U1:=Ai (p:=p) (node:=node) p.aa.nodes.length (nth p.aa.av (nth p.fn node.toNat).toNat).body (ko (nth p.aa.av (nth p.fn node.toNat).toNat).params 0,[]);have VL:=G8 h node p.aa.nodes.length (nth p.aa.av (nth p.fn node.toNat).toNat).body (ko (nth p.aa.av (nth p.fn node.toNat).toNat).params 0,[]) UI.1 (by have:=UI.1;have:=UI.2;omega) (by have:=UI.1;have:=UI.2;omega) Wl (by unfold kT;rw[xE];simp;omega) (by show(ko _ _).length+_<=_;rw[xE];have:=UI.1;have:=UI.2;omega);unfold gS;simp only at U1;generalize lw p node p.aa.nodes.length (nth p.aa.av (nth p.fn node.toNat).toNat).body (ko (nth p.aa.av (nth p.fn node.toNat).toNat).params 0)=O at*;generalize jb p node p.aa.nodes.length (nth p.aa.av (nth p.fn node.toNat).toNat).body (ko (nth p.aa.av (nth p.fn node.toNat).toNat).params 0,[])=R at*;generalize hF:nth p.fn node.toNat=g at*;generalize hG:nth p.aa.av g.toNat=f at*;refine bM func171 ntmps171 ?_
 (have W:=jA hF hG;repeat' (first|refine aq fun K hK=>?_|refine au ?_|(with_reducible refine gR 1 ?_);refine dE 1 (bc 0 12) mixed ?_|(refine hK _ _ ?_;clear hK K)|(refine ap ?_ ?_<;>intro hc<;>try exact jz)|refine bx 1 ?_|refine bx 2 ?_|refine al 5 ?_|refine al 3 ?_|(refine bU ?_ ?_<;>intro hc<;>try exact jz)|refine ar ?_|exact jI|(clear hK K)))
 refine jq (dO.gg 4 3 0 258 3 rfl jC rfl rfl) ?_
 (refine S ?_;try exact jI)
 have Tk:=hK;clear hK;have V8:∀k,(ko (f.params.take k) 0).length=min k f.params.length:=fun k=>by rw[xE];simp
 refine eu (S:=Nat) [(7,2),(23,15)] (fun k=>k<=f.params.length) (fun k=>[(23,rI k)]) (fun k=>⟨[],[(1,.var 32 (ci p)),(2,.var 3 [rI node]),(5,.var 181 (fX f)),(3,.var 184 [.rs 4 k 3 k]),(4,.aF 258 3 ((ko (f.params.take k) 0).map kY))]⟩) (fun k=>f.params.length-k) 0 jB (eD rfl cH) ?_;rintro k hk Kr Tg;have UU:(ko (f.params.take k) 0).length=k:=by rw[V8];omega
 by_cases O':k<f.params.length
 ·(refine S ?_;try exact jI)
  (have W:=UU;repeat' (first|refine aq fun K hK=>?_|refine au ?_|(with_reducible refine gR 1 ?_);refine dE 1 (bc 0 12) mixed ?_|(refine hK _ _ ?_;clear hK K)|(refine ap ?_ ?_<;>intro hc<;>try exact jz)|refine al 6 ?_|refine Tk _ _ ?_|(refine bU ?_ ?_<;>intro hc<;>try exact jz)|refine ar ?_|exact jI|(clear hK K)))
  refine Tg _ _ (pg [6] (k+1) jB (by show f.params.length-(k+1)<f.params.length-k;omega) rfl Sd ?_ jh);show Hp.mk _ [_,_,_,_,_]=Hp.mk _ [_,_,_,_,(4,.aF _ _ ((ko (f.params.take (k+1)) 0).map kY))];rw[ub O',GK,List.map_append];have:((0:Int)+(f.params.take k).length)=(k:Int):=by simp;omega
  rw[this];rfl
 ·have XJ:k=f.params.length:=jB;subst XJ;rw[List.take_length]at UU ⊢;generalize ko f.params 0=V at*;rw[<-UU];cases hR:R.1 with
  |true=>
   cases O with
   |none=>rw[U1.1]at hR;cases hR
   |some W=>
    have hW:R.2.1=W:=U1.2;rw[hR]at VL;refine S ?_
    (repeat' (first|refine aq fun K hK=>?_|refine au ?_|(with_reducible refine gR 1 ?_);refine dE 1 (bc 0 12) mixed ?_|(refine hK _ _ ?_;clear hK K)|(refine ap ?_ ?_<;>intro hc<;>try exact jz)|refine al 7 ?_|(refine cl VL ?_)|refine Tk _ _ ?_|(refine bU ?_ ?_<;>intro hc<;>try exact jz)|refine ar ?_|exact jI|(clear hK K)))
    subst hW;refine fC [.tmp 4] ?_;exact cW.pk R.2.1 R.2.2 rfl (by show some (Row.aF _ _ _)=some (Row.aF _ _ _);rw[List.map_append]) rfl rfl
  |false=>
   cases O with
   |some W=>rw[U1.1]at hR;cases hR
   |none=>
    rw[hR]at VL;refine S ?_
    (repeat' (first|refine aq fun K hK=>?_|refine au ?_|(with_reducible refine gR 1 ?_);refine dE 1 (bc 0 12) mixed ?_|(refine hK _ _ ?_;clear hK K)|(refine ap ?_ ?_<;>intro hc<;>try exact jz)|refine al 7 ?_|(refine cl VL ?_)|refine Tk _ _ ?_|(refine bU ?_ ?_<;>intro hc<;>try exact jz)|refine ar ?_|exact jI|(clear hK K)))
    refine fC [.tmp 4] ?_;exact cW.nil _ _
end Go.Proofs.YtjpcgmjaipfgdaaGreatDoor
namespace Go.Proofs.YtjpcgmjaipfgdaaGreatDoor
open Go Go.Gd Tryz Go.Gd.MV
def sE(nm:TF)(v:aj):TA:=[(5,.var 9 [rS nm]),(7,.var 54 (bS v))]
attribute [go_sem] sE Bool.false_and Bool.true_and
def F8(nm:TF)(v:aj):∀i r,aA (sE nm v) i=some r->aW (fun i=>(ids (sE nm v)).contains i) r.cells=true:=fun i r h=>by
 unfold sE at h;simp only[aA]at h;split at h
 ·cases h;rfl
 ·split at h
  ·cases h;rfl
  ·cases h
def EU(nm:TF)(v:aj):(ids (sE nm v)).Nodup:=by simp[sE,ids]
def Iz{e tl:TA}(Ta:∀i,i<1000->aA e i=none){nm:TF}{v:aj}(h5:aA tl 5=some (.var 9 [rS nm]))(h7:aA tl 7=some (.var 54 (bS v))):∀i r,aA (sE nm v) i=some r->aA (tie e tl) i=some r:=fun i r h=>by
 unfold sE at h;simp only[aA]at h;split at h
 ·rename_i e;subst e;cases h;rw[j9,Ta 5 jC];exact h5
 ·split at h
  ·rename_i e;subst e;cases h;rw[j9,Ta 7 jC];exact h7
  ·cases h
def Qz(nm:TF)(v:aj)(x:bD):ab prog 173 [.agg (kY x),.pt 5 0 0 0,.pt 7 0 0 0] (sE nm v) (fun r l=>r=rB (decide (x.name=nm/\x.ty=v.ty))/\l=sE nm v):=by
 suffices key:∀b,decide (x.name=nm/\x.ty=v.ty)=b->ab prog 173 [.agg (kY x),.pt 5 0 0 0,.pt 7 0 0 0] (sE nm v) (fun r l=>r=rB b/\l=sE nm v) from key _ rfl
 intro b hb;by_cases c1:x.name=nm
 ·by_cases c2:x.ty=v.ty
  ·rw[decide_eq_true ⟨c1,c2⟩]at hb;subst hb;refine aL func173 ntmps173 ?_;refine S ?_
   (have W:=jA c1 c2;repeat' (first|refine aq fun K hK=>?_|refine au ?_|(refine hK _ _ ?_;clear hK K)|(refine ap ?_ ?_<;>intro hc<;>try exact jz)|refine bx 9 ?_|(refine bU ?_ ?_<;>intro hc<;>try exact jz)|refine ar ?_|exact jI|(clear hK K)))
   (refine aZ [.tmp 4] ?_;try simp only[go_sem])
  ·rw[decide_eq_false (fun h=>c2 h.2)]at hb;subst hb;refine aL func173 ntmps173 ?_;refine S ?_
   (have W:=jA c1 c2;repeat' (first|refine aq fun K hK=>?_|refine au ?_|(refine hK _ _ ?_;clear hK K)|(refine ap ?_ ?_<;>intro hc<;>try exact jz)|refine bx 9 ?_|(refine bU ?_ ?_<;>intro hc<;>try exact jz)|refine ar ?_|exact jI|(clear hK K)))
   (refine aZ [.tmp 4] ?_;try simp only[go_sem])
 ·rw[decide_eq_false (fun h=>c1 h.1)]at hb;subst hb;refine aL func173 ntmps173 ?_;refine S ?_
  (have W:=c1;repeat' (first|refine aq fun K hK=>?_|refine au ?_|(refine hK _ _ ?_;clear hK K)|(refine ap ?_ ?_<;>intro hc<;>try exact jz)|refine bx 9 ?_|(refine bU ?_ ?_<;>intro hc<;>try exact jz)|refine ar ?_|exact jI|(clear hK K)))
  (refine aZ [.tmp 4] ?_;try simp only[go_sem])
def Ih(nm:TF)(v:aj)(L:List bD)(hL:L.length<=100000):ab prog 172 [aM kY 3 L,.dP 173 [.pt 5 0 0 0,.pt 7 0 0 0]] (sE nm v) (fun r l=>r=rI (ik nm v.ty L 0)/\l=sE nm v):=by
 suffices key:∀z,ik nm v.ty L 0=z->ab prog 172 [aM kY 3 L,.dP 173 [.pt 5 0 0 0,.pt 7 0 0 0]] (sE nm v) (fun r l=>r=rI z/\l=sE nm v) from key _ rfl
 intro z hz;refine aL func172 ntmps172 ?_;refine S ?_
 (repeat' (first|refine aq fun K hK=>?_|refine au ?_|(refine hK _ _ ?_;clear hK K)|(refine ap ?_ ?_<;>intro hc<;>try exact jz)|(refine bU ?_ ?_<;>intro hc<;>try exact jz)|refine ar ?_|exact jI|(clear hK K)))
 have Tk:=hK;clear hK;refine eu (S:=Nat) [(4,2),(8,11)] (fun k=>k<=L.length/\∀j,j<k->¬((nth L j).name=nm/\(nth L j).ty=v.ty)) (fun k=>[(8,rI k)]) (fun _=>⟨[5,7],sE nm v⟩) (fun k=>L.length-k) 0 ⟨Nat.zero_le _,fun j h=>jB⟩ (eD rfl cH) ?_;rintro k ⟨hk,Te⟩ Kr Tg;by_cases O':k<L.length
 ·have Tn:=Qz nm v (nth L k);by_cases c:(nth L k).name=nm/\(nth L k).ty=v.ty
  ·rw[decide_eq_true c]at Tn;have:=PS O' c Te;rw[hz]at this;subst this;refine S ?_
   (have W:=O';repeat' (first|refine aq fun K hK=>?_|refine au ?_|(refine hK _ _ ?_;clear hK K)|(refine ap ?_ ?_<;>intro hc<;>try exact jz)|(refine cl Tn ?_)|refine Tk _ _ ?_|(refine bU ?_ ?_<;>intro hc<;>try exact jz)|refine ar ?_|exact jI|(clear hK K)))
   (refine aZ [.tmp 4] ?_;try simp only[go_sem])
  ·rw[decide_eq_false c]at Tn;refine S ?_
   (have W:=O';repeat' (first|refine aq fun K hK=>?_|refine au ?_|(refine hK _ _ ?_;clear hK K)|(refine ap ?_ ?_<;>intro hc<;>try exact jz)|(refine cl Tn ?_)|refine Tk _ _ ?_|(refine bU ?_ ?_<;>intro hc<;>try exact jz)|refine ar ?_|exact jI|(clear hK K)))
   exact Tg _ _ (eJ (k+1) ⟨jB,fun j hj=>by
    by_cases e:j<k
    ·exact Te j e
    ·rw[show j=k from jB];exact c⟩ (by show L.length-(k+1)<L.length-k;omega) rfl cH)
 ·have:=RK (nm:=nm) (ty:=v.ty) (l:=L) fun j hj=>Te j jB
  rw[hz]at this;subst this;refine S ?_
  (have W:=O';repeat' (first|refine aq fun K hK=>?_|refine au ?_|(refine hK _ _ ?_;clear hK K)|(refine ap ?_ ?_<;>intro hc<;>try exact jz)|refine Tk _ _ ?_|(refine bU ?_ ?_<;>intro hc<;>try exact jz)|refine ar ?_|exact jI|(clear hK K)))
  (refine aZ [.tmp 4] ?_;try simp only[go_sem])
end Go.Proofs.YtjpcgmjaipfgdaaGreatDoor
namespace Go.Proofs.YtjpcgmjaipfgdaaGreatDoor
open Go Go.Gd Tryz
theorem Cw{p:af}(h:gk p):∀(j i:Nat),j<p.aa.av.length->i<j->(nth p.aa.av i).body.toNat<kS p.aa j
 |0,i,_,h2=>by omega
 |j+1,i,h1,h2=>by
  have hc:=(h.av j jB).chain.le;have e:kS p.aa (j+1)=(nth p.aa.av j).body.toNat+1:=by unfold kS;rw[jN];rfl
  rw[e];by_cases k:i=j
  ·subst k;omega
  ·have:=Cw h j i jB jB;omega
variable{p:af}
def J6(h:gk p){i j:Nat}(hi:i<p.aa.av.length)(hj:j<p.aa.av.length){a:Nat}(h1:kS p.aa i<=a)(h2:a<=(nth p.aa.av i).body.toNat)(h3:kS p.aa j<=a)(h4:a<=(nth p.aa.av j).body.toNat):i=j:=by
 rcases Nat.lt_trichotomy i j with k|k|k
 ·have:=Cw h j i hj k;omega
 ·exact k
 ·have:=Cw h i j hi k;omega
def sY(p:af)(j:Nat)(v:bD):Prop:=0<=v.slot/\v.slot<nth p.size j
def Rx(h:py p){x:Int}(hx:x.toNat<p.aa.nodes.length)(kb:(nth p.aa.nodes x.toNat).kind=15\/(nth p.aa.nodes x.toNat).kind=16):∀y∈(nth p.aa.nodes x.toNat).l.drop 1,bX p.aa.nodes y=18:=fun y hy=>by
 have shx:=h.aa.shape x.toNat hx;rcases kb with kb|kb
 ·obtain⟨a,c,_,hb,hl|⟨d,hl,hd⟩⟩:=shx.1.lC kb
  ·rw[hl]at hy;simp at hy;subst hy;exact hb
  ·rw[hl]at hy;simp at hy;rcases hy with rfl|rfl
   ·exact hb
   ·exact hd
 ·obtain⟨a,c,hl,_,hb⟩:=shx.1.dX kb;rw[hl]at hy;simp at hy;subst hy;exact hb
theorem G7{p:af}(h:gk p){j:Nat}(hj:j<p.aa.av.length)(node:Int):∀(n:Nat) (b:Int) (vars R:List bD),mV p j ⟨b,0⟩->(∀v∈vars,sY p j v)->lw p node n b vars=some R->(∀v∈R,sY p j v)/\kS p.aa j<=node.toNat/\node.toNat<=(nth p.aa.av j).body.toNat
 |0,b,vars,R,_,_,e=>by cases e
 |n+1,b,vars,R,hb,hv,e=>by
  have ih:=G7 h hj node n;have hf:=h.av j hj;have aE:∀(l:TD) (vs R:List bD),(∀y∈l,mV p j ⟨y,0⟩)->(∀v∈vs,sY p j v)->o7 (lw p node n) vs l=some R->(∀v∈R,sY p j v)/\kS p.aa j<=node.toNat/\node.toNat<=(nth p.aa.av j).body.toNat:=fun l=>by
   induction l with
   |nil=>intro vs R _ _ e;cases e
   |cons y l ihl=>
    intro vs R hl VG e;unfold o7 at e;cases e1:lw p node n y vs with
    |none=>rw[e1]at e;exact ihl vs R (fun z hz=>hl z (by simp[hz])) VG e
    |some R'=>rw[e1]at e;cases e;exact ih y vs _ (hl y jE) VG e1
  have sc:∀(l:TD) (vs R:List bD),(∀x∈l,x∈wq p b)->(∀v∈vs,sY p j v)->pK (lw p node n) p node l vs=some R->(∀v∈R,sY p j v)/\kS p.aa j<=node.toNat/\node.toNat<=(nth p.aa.av j).body.toNat:=fun l=>by
   induction l with
   |nil=>intro vs R _ _ e;cases e
   |cons x l ihl=>
    intro vs R hx VG e;obtain⟨x0,x1,x2,x3⟩:=hb.aE h (by omega:(0:Int)<=j) jB (hx x jE);have x1:x.toNat<b.toNat:=x1;have x2:kS p.aa j<=x.toNat:=by rw[Int.toNat_natCast]at x2;exact x2
    have Wm:b.toNat<=(nth p.aa.av j).body.toNat:=by have:=hb.hi;rw[Int.toNat_natCast]at this;exact this
    have UI:=oV h.ok.aa hj;have XF:x.toNat<p.aa.nodes.length:=by have:=UI.1;have:=UI.2;omega
    have YV:∀v∈lO p x vs,sY p j v:=fun v TO=>by
     unfold lO at TO;split at TO
     ·rename_i k10;rcases List.mem_append.1 TO with TO|TO
      ·exact VG v TO
      ·rw[List.mem_singleton]at TO;subst TO;have k10:(nth p.aa.nodes x.toNat).kind=10:=k10;exact hf.all x.toNat x2 jB (by unfold jL;omega)
     ·exact VG v TO
    unfold pK at e;split at e
    ·rename_i ex;cases e;rw[<-ex];exact⟨VG,x2,jB⟩
    ·cases e1:(if(ak p x).kind=15\/(ak p x).kind=16 then o7 (lw p node n) (lO p x vs) ((ak p x).l.drop 1)else none)with
     |none=>rw[e1]at e;exact ihl _ R (fun y hy=>hx y (by simp[hy])) YV e
     |some R'=>
      rw[e1]at e;cases e;split at e1
      ·rename_i kb;refine aE _ _ _ (fun y hy=>?_) YV e1;have XX:y∈(nth p.aa.nodes x.toNat).l:=List.mem_of_mem_drop hy;have YW:=(h.ok.aa.shape x.toNat XF).2.1 y XX;have Ta:=hf.chain.closed x.toNat x2 jB y XX;exact⟨YW.1,by rw[Int.toNat_natCast];exact Ta,by rw[Int.toNat_natCast];show y.toNat<=_;omega,Rx h.ok XF kb y hy,Int.le_refl _,by show(0:Int)<=_;omega⟩
      ·cases e1
  exact sc (ak p b).l vars R (fun x hx=>hx) hv e
theorem G4{z:Int}:∀(l:List bK) (i:Int),0<=i->i+l.length<=z->∀v∈ko l i,0<=v.slot/\v.slot<z
 |[],i,_,_,v,hv=>by cases hv
 |x::l,i,h0,h1,v,hv=>by
  simp only[List.length_cons]at h1;simp only[ko,List.mem_cons]at hv;rcases hv with rfl|hv
  ·exact⟨h0,by show i<z;omega⟩
  ·exact G4 l (i+1) jB jB v hv
def R5(h:gk p)(UA:∀k,k<p.aa.nodes.length->0<=nth p.fn k/\nth p.fn k<p.aa.av.length){node:Int}(h1:node.toNat<p.aa.nodes.length){j:Nat}(hj:j<p.aa.av.length)(h2:kS p.aa j<=node.toNat)(h3:node.toNat<=(nth p.aa.av j).body.toNat):∀v∈gS p node,sY p j v:=by
 obtain⟨f0,f1⟩:=UA _ h1;have XB:(nth p.fn node.toNat).toNat<p.aa.av.length:=jB;have UI:=oV h.ok.aa XB;have hf:=h.av _ XB;unfold gS;cases e:lw p node p.aa.nodes.length (nth p.aa.av (nth p.fn node.toNat).toNat).body (ko (nth p.aa.av (nth p.fn node.toNat).toNat).params 0)with
 |none=>intro v hv;cases hv
 |some R=> obtain⟨a,b,c⟩:=G7 h XB node _ _ _ R ⟨UI.1,by rw[Int.toNat_natCast];exact hf.chain.le,by rw[Int.toNat_natCast];exact Nat.le_refl _,h.ok.aa.body _ (fh XB),Int.le_refl _,by show(0:Int)<=_;omega⟩ (G4 _ _ (Int.le_refl _) (by have:=hf.vV;omega)) e;rw[J6 h hj XB h2 h3 b c];exact a
def DS(h:py p)(UA:∀k,k<p.aa.nodes.length->0<=nth p.fn k/\nth p.fn k<p.aa.av.length){node:Int}(h1:node.toNat<p.aa.nodes.length):(gS p node).length<=100000:=by
 obtain⟨f0,f1⟩:=UA _ h1;have XB:(nth p.fn node.toNat).toNat<p.aa.av.length:=jB;have hps:=(h.aa.fn _ (fh XB)).2;have hm:=h.aa.many;unfold gS;cases e:lw p node p.aa.nodes.length (nth p.aa.av (nth p.fn node.toNat).toNat).body (ko (nth p.aa.av (nth p.fn node.toNat).toNat).params 0)with
 |none=>exact Nat.zero_le _
 |some R=> have:=EA (yz h) _ _ _ _ e;rw[xE]at this;show R.length<=_;omega
end Go.Proofs.YtjpcgmjaipfgdaaGreatDoor
namespace Go.Proofs.YtjpcgmjaipfgdaaGreatDoor
open Go Go.Gd Tryz Go.Gd.MV
def gp(C:aH)(m:MV):Int:=(nth (m.dD C).calls ((m.dD C).calls.length-1)).node
def gX(p:af)(C:aH)(m:MV)(nm:TF)(v:aj):Option MV:=
 if(m.status=2\/m.status=3)\/lU v=false\/v.ty=4 then none
 else if ik nm v.ty (gS p (gp C m)) 0<0 then none
 else some (rk m (nth (gS p (gp C m)) (ik nm v.ty (gS p (gp C m)) 0).toNat).slot.toNat v)
section
variable {p:af}{C:aH}{m:MV}{N:NM}{e:TA}(hR:bH p C m N e)(hk:uw C m)(nm:TF)(v:aj)
include hR hk
theorem PO(h:(m.status=2\/m.status=3)\/lU v=false\/v.ty=4):cV prog 116 [.agg (ci p),mP N,rS nm,.agg (bS v)] e (rB false) e:=by
 have UW:=we hR hk;have Ta:=hR.ok.low;have XC:=uI v;have P':(m.dD C).status=m.status:=rfl;refine⟨?_,hR.ok,hR.ok,fun _ h=>h,?_⟩;rotate_left
 ·simp only[aW,AV.all,fV hR.root,Bool.and_self,Bool.and_true,bS];rfl
 rw[<-P']at h;generalize m.dD C=Sh at*;clear P';have hq:(Sh.status=2/\True/\True)\/(¬Sh.status=2/\Sh.status=3/\True)\/(¬Sh.status=2/\¬Sh.status=3/\lU v=false)\/(¬Sh.status=2/\¬Sh.status=3/\(lU v=true/\v.ty=4)):=by
  by_cases a:Sh.status=2
  ·exact .inl ⟨a,trivial,trivial⟩
  by_cases b:Sh.status=3
  ·exact .inr (.inl ⟨a,b,trivial⟩)
  cases c:lU v
  ·exact .inr (.inr (.inl ⟨a,b,rfl⟩))
  ·refine .inr (.inr (.inr ⟨a,b,rfl,?_⟩));rcases h with h|h|h
   ·omega
   ·rw[c]at h;cases h
   ·exact h
 rcases hq with⟨q1,q2,q3⟩|⟨q1,q2,q3⟩|⟨q1,q2,q3⟩|⟨q1,q2,q3,q4⟩
 all_goals try rw[q3]at XC
 all_goals
  refine aL (L:=ids e) func116 ntmps116 ?_ (hL:=rfl);generalize hB:ids e=B;refine eO ?_
  (have W:=jA Ta (jA q1 (q2));repeat' (first|refine aq fun K hK=>?_|refine au ?_|(with_reducible refine gR 4 ?_);refine dE 4 (bc 0 12) mixed ?_|(with_reducible refine gR 6 ?_);refine dE 6 (bc 0 13) mixed ?_|(refine hK _ _ ?_;clear hK K)|(refine ap ?_ ?_<;>intro hc<;>try exact jz)|refine aV 4 ?_|refine aV 5 ?_|refine aV 7 ?_|refine bY 9 ?_|refine cp (XC) ?_|refine cq (XC) ?_|(refine⟨rB false,?_⟩;refine S ?_)|refine cT UW ?_|(refine bU ?_ ?_<;>intro hc<;>try exact jz)|refine ar ?_|exact jI|(clear hK K)))
  try(exact dZ hB hR.ok hR.ok (tl:=[(4,.var 32 (ci p)),(5,.var 9 [rS nm]),(7,.var 54 (bS v)),(9,.var 45 (lj Sh))]) (fun _=>rfl) (dm jC (dm jC (dm jC (dm jC dz)))) [.tmp 8])
theorem HJ(hs:gk p)(UA:∀k,k<p.aa.nodes.length->0<=nth p.fn k/\nth p.fn k<p.aa.av.length)(hM:MI p C m)(h2:¬(m.status=2\/m.status=3)):1<=m.calls.length/\(m.dD C).calls.length=m.calls.length/\0<=gp C m/\(gp C m).toNat<p.aa.nodes.length/\∀x∈gS p (gp C m),0<=x.slot/\x.slot<m.ah.slots.length:=by
 obtain⟨h1,_,_,_⟩:=hM.ah fun e=>h2 (.inl e)
 have hl:(m.dD C).calls.length=m.calls.length:=by show((List.range m.calls.length).map _).length=_;simp
 have hn:nth (m.dD C).calls ((m.dD C).calls.length-1)=m.spot C (m.calls.length-1):=by rw[hl];show nth ((List.range m.calls.length).map (m.spot C)) (m.calls.length-1)=_;rw[fJ jF];simp
 have Xf:=JH hM (k:=m.calls.length-1) jB;have ht:gp C m=(m.spot C (m.calls.length-1)).node:=by unfold gp;rw[hn]
 have f0:=Xf.f0;have f1:=Xf.f1;refine⟨h1,hl,by rw[ht];exact Xf.n0,by rw[ht];exact Xf.n1,fun x hx=>?_⟩;rw[ht]at hx;obtain⟨a,b⟩:=R5 hs UA Xf.n1 (j:=(m.spot C (m.calls.length-1)).fn.toNat) jB Xf.in_.1 Xf.in_.2 x hx;exact⟨a,by have:=Xf.sl;show x.slot<((m.spot C (m.calls.length-1)).slots.length:Int);omega⟩
theorem Ki(hs:gk p)(UA:∀k,k<p.aa.nodes.length->0<=nth p.fn k/\nth p.fn k<p.aa.av.length)(hM:MI p C m)(h2:¬(m.status=2\/m.status=3))(hm:lU v=true)(h4:¬v.ty=4)(hf:ik nm v.ty (gS p (gp C m)) 0<0):cV prog 116 [.agg (ci p),mP N,rS nm,.agg (bS v)] e (rB false) e:=by
 have UW:=we hR hk;have Ta:=hR.ok.low;have XC:=uI v;rw[hm]at XC;obtain⟨h1,hl,n0,n1,_⟩:=HJ hR hk hs UA hM h2;have hvc:=Gu hs.ok UA (gp C m) n0 n1;have XP:=DS hs.ok UA n1;have VO:=Ih nm v (gS p (gp C m)) jB;generalize ik nm v.ty (gS p (gp C m)) 0=z at*;generalize gS p (gp C m)=V at*;have hc8:m.calls.length<=1000:=by have:=hk.1;omega
 refine⟨?_,hR.ok,hR.ok,fun _ h=>h,?_⟩;rotate_left
 ·simp only[aW,AV.all,fV hR.root,Bool.and_self,Bool.and_true,bS];rfl
 have q1:¬(m.dD C).status=2:=fun e=>h2 (.inl e)
 have q2:¬(m.dD C).status=3:=fun e=>h2 (.inr e)
 have e1:(((m.dD C).calls.length:Int)-1).toNat=(m.dD C).calls.length-1:=jB;have g1:(m.dD C).calls.length-1<(m.dD C).calls.length:=jB;have g2:0<=((m.dD C).calls.length:Int)-1:=jB;have et:(nth (m.dD C).calls ((m.dD C).calls.length-1)).node=gp C m:=rfl;have hz:¬z >= 0:=jB;generalize gp C m=a at*;generalize m.dD C=Sh at*;refine aL (L:=ids e) func116 ntmps116 ?_ (hL:=rfl);generalize hB:ids e=B;refine eO ?_
 (have W:=jA Ta (jA q1 (jA q2 (jA h4 (jA e1 (jA g1 (jA g2 (jA et (hz))))))));repeat' (first|refine aq fun K hK=>?_|refine au ?_|(with_reducible refine gR 4 ?_);refine dE 4 (bc 0 12) mixed ?_|(with_reducible refine gR 6 ?_);refine dE 6 (bc 0 13) mixed ?_|(refine hK _ _ ?_;clear hK K)|(refine ap ?_ ?_<;>intro hc<;>try exact jz)|refine aV 4 ?_|refine aV 5 ?_|refine aV 7 ?_|refine bY 9 ?_|refine cp (XC) ?_|refine cq (XC) ?_|refine cp (hvc) ?_|(refine Dm VO (Iz Ta rfl rfl) rfl (F8 nm v) (EU nm v) ?_;try refine S ?_)|(refine⟨rB false,?_⟩;refine S ?_)|refine cT UW ?_|(refine bU ?_ ?_<;>intro hc<;>try exact jz)|refine ar ?_|exact jI|(clear hK K)))
 exact dZ hB hR.ok hR.ok (tl:=[(4,.var 32 (ci p)),(5,.var 9 [rS nm]),(7,.var 54 (bS v)),(9,.var 45 (lj Sh))]) (fun _=>rfl) (dm jC (dm jC (dm jC (dm jC dz)))) [.tmp 8]
theorem Fa(hs:gk p)(UA:∀k,k<p.aa.nodes.length->0<=nth p.fn k/\nth p.fn k<p.aa.av.length)(hM:MI p C m)(h2:¬(m.status=2\/m.status=3))(hm:lU v=true)(h4:¬v.ty=4)(hf:¬ik nm v.ty (gS p (gp C m)) 0<0) :
  cV prog 116 [.agg (ci p),mP N,rS nm,.agg (bS v)] e (rB true) (bg e (hn 1 N.ah.c) (.aF 54 3 ((m.ah.slots.set (nth (gS p (gp C m)) (ik nm v.ty (gS p (gp C m)) 0).toNat).slot.toNat v).map bS)))/\
   bH p C (rk m (nth (gS p (gp C m)) (ik nm v.ty (gS p (gp C m)) 0).toNat).slot.toNat v) N (bg e (hn 1 N.ah.c) (.aF 54 3 ((m.ah.slots.set (nth (gS p (gp C m)) (ik nm v.ty (gS p (gp C m)) 0).toNat).slot.toNat v).map bS))):=by
 have UW:=we hR hk;have Ta:=hR.ok.low;have XC:=uI v;rw[hm]at XC;obtain⟨h1,hl,n0,n1,Uq⟩:=HJ hR hk hs UA hM h2;have hvc:=Gu hs.ok UA (gp C m) n0 n1;have XP:=DS hs.ok UA n1;have VO:=Ih nm v (gS p (gp C m)) jB;obtain⟨k0,ek,Tt,_,_⟩:=y6 nm v.ty (gS p (gp C m)) 0 (by show 0<=ik nm v.ty (gS p (gp C m)) 0;omega);have ek:ik nm v.ty (gS p (gp C m)) 0=0+(k0:Int):=ek;rw[Int.zero_add]at ek;obtain⟨Xb,hs2⟩:=Uq _ (fh Tt);rw[ek,Int.toNat_natCast];rw[ek]at VO;clear hf ek Uq;have Tv:=hk;obtain⟨_,_,s3,_⟩:=Tv;have U':=s3 (m.calls.length-1) jB;have U':m.ah.slots.length<=1000:=by have:(nth m.calls (m.calls.length-1)).slots.length=m.ah.slots.length:=rfl;omega
 obtain⟨kk,ekk⟩:∃kk:Nat,(nth (gS p (gp C m)) k0).slot=(kk:Int):=⟨(nth (gS p (gp C m)) k0).slot.toNat,jB⟩;rw[ekk,Int.toNat_natCast];obtain⟨VG,Ud⟩:=Se hR h2 h1 kk jB U' v;refine⟨?_,Ud⟩;have k2:=Ud.ok;have hkp:=VG.aU;have u':∀X Y,CJ ([hn 1 N.ah.c],X,Y) e (bg e (hn 1 N.ah.c) (.aF 54 3 ((m.ah.slots.set kk v).map bS))):=fun X Y j hj _=>.inl (by rw[bF,if_neg];rintro rfl;simp at hj)
 generalize bg e (hn 1 N.ah.c) (.aF 54 3 ((m.ah.slots.set kk v).map bS))=E at*;clear Ud;generalize gS p (gp C m)=V at*;have hc8:m.calls.length<=1000:=by have:=hk.1;omega
 refine⟨?_,hR.ok,k2,hkp,?_⟩;rotate_left
 ·simp only[aW,AV.all,fV hR.root,Bool.and_self,Bool.and_true,bS];rfl
 have q1:¬(m.dD C).status=2:=fun e=>h2 (.inl e)
 have q2:¬(m.dD C).status=3:=fun e=>h2 (.inr e)
 have e1:(((m.dD C).calls.length:Int)-1).toNat=(m.dD C).calls.length-1:=jB;have g1:(m.dD C).calls.length-1<(m.dD C).calls.length:=jB;have g2:0<=((m.dD C).calls.length:Int)-1:=jB;have et:(nth (m.dD C).calls ((m.dD C).calls.length-1)).node=gp C m:=rfl;have hz:(k0:Int) >= 0:=jB;generalize gp C m=a at*;generalize m.dD C=Sh at*;refine aL (L:=ids e) func116 ntmps116 ?_ (hL:=rfl);generalize hB:ids e=B;refine eO ?_
 (have W:=jA Ta (jA q1 (jA q2 (jA h4 (jA e1 (jA g1 (jA g2 (jA et (jA hz (jA Tt (ekk))))))))));repeat' (first|refine aq fun K hK=>?_|refine au ?_|(with_reducible refine gR 4 ?_);refine dE 4 (bc 0 12) mixed ?_|(with_reducible refine gR 6 ?_);refine pX 6 [hn 1 N.ah.c] [] [56] [] (bc 0 13) mixed ?_|(refine hK _ _ ?_;clear hK K)|(refine ap ?_ ?_<;>intro hc<;>try exact jz)|refine aV 4 ?_|refine aV 5 ?_|refine aV 7 ?_|refine bY 9 ?_|refine cp (XC) ?_|refine cq (XC) ?_|refine cp (hvc) ?_|(refine Dm VO (Iz Ta rfl rfl) rfl (F8 nm v) (EU nm v) ?_;try refine S ?_)|(refine nS VG (u' _ _) ?_)|refine cT UW ?_|(refine bU ?_ ?_<;>intro hc<;>try exact jz)|refine ar ?_|exact jI|(clear hK K)))
 exact dZ hB hR.ok k2 (tl:=[(4,.var 32 (ci p)),(5,.var 9 [rS nm]),(7,.var 54 (bS v)),(9,.var 45 (lj Sh))]) (fun _=>rfl) (dm jC (dm jC (dm jC (dm jC dz)))) [.tmp 8]
end
end Go.Proofs.YtjpcgmjaipfgdaaGreatDoor