/- Lemmas. No conditions. -/
import Derived.Test.YtijdhbokcdpklaaGreatDoorTrR
set_option linter.all false
set_option maxHeartbeats 4000000
set_option maxRecDepth 10000
namespace Go.Gd
open Go
abbrev VS:=List bI×List bI
def rJ(x:bI)(s:VS):VS:=(s.1++[x],s.2.drop 1)
def oC(m:Nat)(s:VS):VS:=(s.1.take m,s.1.drop m++s.2)
def kD(w:Int->VS->Bool×VS):UP->VS->Bool×VS
 |[],s=>(false,s)
 |b::l,s=>if(w b s).1=true then(true,(w b s).2)else kD w l (w b s).2
def mY(w:Int->VS->Bool×VS)(p:af)(node:Int):UP->VS->Bool×VS
 |[],s=>(false,s)
 |x::l,s=>
  if x=node then(true,s)
  else if(au p x).kind=10 then mY w p node l (rJ (qE p x) s)
  else if(au p x).kind=15\/(au p x).kind=16 then
   (if(kD w ((au p x).l.drop 1) s).1=true then(true,(kD w ((au p x).l.drop 1) s).2)else mY w p node l (kD w ((au p x).l.drop 1) s).2)
  else mY w p node l s
def jw(p:af)(node:Int):Nat->Int->VS->Bool×VS
 |0,_,s=>(false,s)
 |n+1,b,s=>if(mY (jw p node n) p node (au p b).l s).1=true then mY (jw p node n) p node (au p b).l s else(false,oC s.1.length (mY (jw p node n) p node (au p b).l s).2)
def wZ(s:VS)(o:Option (List bI))(r:Bool×VS):Prop:=match o with
 |some R=>r.1=true/\r.2.1=R
 |none=>r.1=false/\r.2.1=s.1
theorem IA{w:Int->VS->Bool×VS}{v:Int->List bI->Option (List bI)}(h:∀b s,wZ s (v b s.1) (w b s)):∀(l:UP) (s:VS),wZ s (pk v s.1 l) (kD w l s)
 |[],s=>⟨rfl,rfl⟩
 |b::l,s=>by
  have hb:=h b s;unfold pk kD;cases e:v b s.1 with
  |some R=> rw[e]at hb;rw[if_pos hb.1];exact⟨rfl,hb.2⟩
  |none=>
   rw[e]at hb;rw[if_neg (by rw[hb.1];decide),Option.none_or];have:=IA h l (w b s).2;rw[hb.2]at this;unfold wZ at this ⊢;rw[<-hb.2];rw[hb.2];cases e2:pk v s.1 l with
   |some R=>rw[e2]at this;exact this
   |none=>rw[e2]at this;exact⟨this.1,this.2.trans hb.2⟩
def N0(s:VS)(o:Option (List bI))(r:Bool×VS):Prop:=match o with
 |some R=>r.1=true/\r.2.1=R
 |none=>r.1=false/\r.2.1.take s.1.length=s.1
theorem zJ{p:af}{node:Int}{w:Int->VS->Bool×VS}{v:Int->List bI->Option (List bI)}(h:∀b s,wZ s (v b s.1) (w b s)):∀(l:UP) (s:VS),N0 s (pS v p node l s.1) (mY w p node l s)
 |[],s=>⟨rfl,List.take_length⟩
 |x::l,s=>by
  unfold pS mY;by_cases hx:x=node
  ·rw[if_pos hx,if_pos hx];exact⟨rfl,rfl⟩
  rw[if_neg hx,if_neg hx];by_cases k10:(au p x).kind=10
  ·rw[if_pos k10,jN,Option.none_or];have:=zJ (p:=p) (node:=node) h l (rJ (qE p x) s);have e:(rJ (qE p x) s).1=l9 p x s.1:=by unfold l9;rw[if_pos k10];rfl
   rw[e]at this;cases e2:pS v p node l (l9 p x s.1)with
   |some R=>rw[e2]at this;exact this
   |none=>
    rw[e2]at this;refine⟨this.1,?_⟩;have h2:=this.2;rw[e]at h2;have h3:(l9 p x s.1).take s.1.length=s.1:=by unfold l9;rw[if_pos k10,List.take_left]
    have hl:s.1.length<=(l9 p x s.1).length:=by unfold l9;rw[if_pos k10];simp
    have h4:(mY w p node l (rJ (qE p x) s)).2.1.take s.1.length=((mY w p node l (rJ (qE p x) s)).2.1.take (l9 p x s.1).length).take s.1.length:=by rw[List.take_take,Nat.min_eq_left hl]
    rw[h4,h2,h3]
  rw[if_neg k10];have hl:l9 p x s.1=s.1:=by unfold l9;rw[if_neg k10]
  rw[hl];by_cases kb:(au p x).kind=15\/(au p x).kind=16
  ·rw[if_pos kb,if_pos kb];have hk:=IA h ((au p x).l.drop 1) s;cases e:pk v s.1 ((au p x).l.drop 1)with
   |some R=>rw[e]at hk;rw[if_pos hk.1];exact⟨rfl,hk.2⟩
   |none=>
    rw[e]at hk;rw[if_neg (by rw[hk.1];decide),Option.none_or];have:=zJ (p:=p) (node:=node) h l (kD w ((au p x).l.drop 1) s).2;rw[hk.2]at this;cases e2:pS v p node l s.1 with
    |some R=>rw[e2]at this;exact this
    |none=>rw[e2]at this;refine⟨this.1,?_⟩;have h2:=this.2;rw[hk.2]at h2;exact h2
  ·rw[if_neg kb,if_neg kb,Option.none_or];exact zJ (p:=p) (node:=node) h l s
theorem De{p:af}{node:Int}:∀(n:Nat) (b:Int) (s:VS),wZ s (lG p node n b s.1) (jw p node n b s)
 |0,b,s=>⟨rfl,rfl⟩
 |n+1,b,s=>by
  have:=zJ (p:=p) (node:=node) (De (p:=p) (node:=node) n) (au p b).l s;unfold lG jw;cases e:pS (lG p node n) p node (au p b).l s.1 with
  |some R=>rw[e]at this;rw[if_pos this.1];exact this
  |none=>rw[e]at this;rw[if_neg (by rw[this.1];decide)];exact⟨rfl,this.2⟩
def ld(s:VS):Nat:=s.1.length+s.2.length
def HZ(x:bI)(s:VS){T:Nat}(h:ld s<=T)(h1:s.1.length+1<=T):ld (rJ x s)<=T:=by unfold ld rJ at*;simp only[List.length_append,List.length_cons,List.length_nil,List.length_drop];omega
def M3(m:Nat)(s:VS):ld (oC m s)=ld s:=by unfold ld oC;simp only[List.length_append,List.length_take,List.length_drop];omega
def Ke{p:af}{node:Int}{n:Nat}{b:Int}{s:VS}(h:(jw p node n b s).1=false):(jw p node n b s).2.1=s.1:=by
 have:=De (p:=p) (node:=node) n b s;cases e:lG p node n b s.1 with
 |some R=>rw[e]at this;rw[this.1]at h;cases h
 |none=>rw[e]at this;exact this.2
def qv(w:Int->VS->Bool×VS):UP->VS->Int->Int
 |[],_,_=>-1
 |b::l,s,i=>if(w b s).1=true then i else qv w l (w b s).2 (i+1)
theorem Jq(w:Int->VS->Bool×VS):∀(l:UP) (s:VS) (i:Int),0<=i->(kD w l s).1=decide (0<=qv w l s i)
 |[],s,i,_=>rfl
 |b::l,s,i,h=>by
  unfold kD qv;split
  ·exact(decide_eq_true h).symm
  ·exact Jq w l _ (i+1) jB
def EB(w:Int->VS->Bool×VS)(b:Int)(l:UP)(s:VS):kD w (b::l) s=if(w b s).1=true then(true,(w b s).2)else kD w l (w b s).2:=by conv=>lhs;unfold kD
def Lu(w:Int->VS->Bool×VS)(b:Int)(l:UP)(s:VS)(i:Int):qv w (b::l) s i=if(w b s).1=true then i else qv w l (w b s).2 (i+1):=by conv=>lhs;unfold qv
@[go_sem] def j3h(f:FuncId)(cs:UM):(AV.dW f cs).cells=[.dW f cs]:=(rfl)
@[go_sem] def j84(f:FuncId)(cs:UM):(AV.dW f cs).one=true:=by simp[AV.one]
variable{nm:UR}
def O8{ty:Int}{l:List bI}{k:Nat}(hk:k<l.length)(VF:(nth l k).name=nm/\(nth l k).ty=ty)(U8:∀j,j<k->¬((nth l j).name=nm/\(nth l j).ty=ty)):iB nm ty l 0=(k:Int):=by
 by_cases h:0<=iB nm ty l 0
 ·obtain⟨j,e,hj,g,f⟩:=zL nm ty l 0 h;have e:iB nm ty l 0=0+(j:Int):=e;rcases Nat.lt_trichotomy j k with c|c|c
  ·exact(U8 j c g).elim
  ·omega
  ·exact(f k c VF).elim
 ·exact(Fq nm ty l 0 (by show iB nm ty l 0<0;omega) k hk VF).elim
def UG{ty:Int}{l:List bI}(U8:∀j,j<l.length->¬((nth l j).name=nm/\(nth l j).ty=ty)):iB nm ty l 0=-1:=by
 rcases JX nm ty l 0 (Int.le_refl 0)with e|⟨a,b⟩
 ·exact e
 ·obtain⟨j,e,hj,g,f⟩:=zL nm ty l 0 a;exact(U8 j hj g).elim
def Ku{P:UY}{f:FuncId}{args:UM}{s L:UL}{B:UQ}{K:UJ}{r0:AV}(hc:ab P f args s fun r l=>r=r0/\l=s)(hs:∀i r,aC s i=some r->aC L i=some r)(ha:aZ (fun i=>(ids s).contains i) args=true)(U4:∀i r,aC s i=some r->aZ (fun i=>(ids s).contains i) r.cells=true)(hn:(ids s).Nodup)(k:K r0 ⟨B,L⟩)(h0:aS P f=true:=by exact dD):fh P (.raw (.func (.func f) #[] #[])) args ⟨B,L⟩ K:=by
 refine nQ h0 fun w vs h1 h3=>?_
 refine(Ao (H:=⟨B,L⟩) (K:=fun r H'=>r=r0/\∃l',H'=⟨B,l'⟩/\∀i,aC l' i=aC L i) hc hs ha U4 (fun r l' ⟨e1,e2⟩=>⟨fun i s' Yl=>?_,by rw[e2];exact hn,e1,_,rfl,fun i=>?_⟩) h1 h3).mono ?_
 ·subst e2;exact .inl (sI Yl)
 ·subst e2;rw[uR _ _ _ (fun _ _ _=>trivial) hn];cases e:aC l' i with
  |none=>rfl
  |some x=>rw[hs i x e];rfl
 ·rintro e W ⟨v,r,H',w',rfl,rfl,⟨rfl,l',rfl,Wk⟩,g1,g2,g3⟩;exact⟨v,_,⟨B,L⟩,w',rfl,rfl,k,Bv Wk g1,g2,{ g3 with base:=g3.base }⟩
theorem JR{p:af}{node:Int}(hl:∀b,(au p b).l.length<=300):∀(n:Nat) (b:Int) (vars r:List bI),lG p node n b vars=some r->r.length<=vars.length+300*n
 |0,b,vars,r,h=>by cases h
 |n+1,b,vars,r,h=>by
  have ih:=JR (node:=node) hl n;have aF:∀(l:UP) (vs r:List bI),pk (lG p node n) vs l=some r->r.length<=vs.length+300*n:=fun l=>by
   induction l with
   |nil=>intro vs r h;cases h
   |cons b l ihl=>
    intro vs r h;unfold pk at h;cases e:lG p node n b vs with
    |none=>rw[e]at h;exact ihl vs r h
    |some R=>rw[e]at h;cases h;exact ih b vs _ e
  have sc:∀(l:UP) (vs r:List bI),pS (lG p node n) p node l vs=some r->r.length<=vs.length+l.length+300*n:=fun l=>by
   induction l with
   |nil=>intro vs r h;cases h
   |cons x l ihl=>
    intro vs r h;have hak:(l9 p x vs).length<=vs.length+1:=by unfold l9;split<;>simp
    unfold pS at h;simp only[List.length_cons];split at h
    ·cases h;omega
    ·cases e:(if(au p x).kind=15\/(au p x).kind=16 then pk (lG p node n) (l9 p x vs) ((au p x).l.drop 1)else none)with
     |none=>rw[e]at h;have:=ihl _ r h;omega
     |some R=>
      rw[e]at h;cases h;split at e
      ·have:=aF _ _ _ e;omega
      ·cases e
  have:=sc _ _ _ h;have:=hl b;omega
end Go.Gd
namespace Go.Proofs.YtijdhbokcdpklaaGreatDoor
open Go Go.Gd Tryz
theorem Co{p:af}{node:Int}{n:Nat}{T B:Nat}(hw:∀b s,0<=b->b.toNat<B->bX p.aa.nodes b=18->ld s<=1000000->s.1.length<=T->ld (jw p node n b s).2<=1000000):∀(l:UP) (s:VS),(∀b∈l,0<=b/\b.toNat<B/\bX p.aa.nodes b=18)->ld s<=1000000->s.1.length<=T->ld (kD (jw p node n) l s).2<=1000000/\((kD (jw p node n) l s).1=false->(kD (jw p node n) l s).2.1=s.1)
 |[],s,_,h,_=>⟨h,fun _=>rfl⟩
 |b::l,s,hl,h,h1=>by
  obtain⟨b0,b1,b2⟩:=hl b jE;have hb:=hw b s b0 b1 b2 h h1;rw[EB];by_cases e:(jw p node n b s).1=true
  ·rw[if_pos e];exact⟨hb,fun h=>by cases h⟩
  ·rw[if_neg e];have e1:=Ke (Bool.not_eq_true _ ▸ e);have:=Co hw l (jw p node n b s).2 (fun b hb=>hl b (by simp[hb])) hb (by rw[e1];exact h1);exact⟨this.1,fun h=>(this.2 h).trans e1⟩
theorem A8{p:af}(h:p8 p)(node:Int):∀(n:Nat) (b:Int) (s:VS),0<=b->b.toNat<p.aa.nodes.length->bX p.aa.nodes b=18->ld s<=1000000->s.1.length+300*b.toNat<=900000->ld (jw p node n b s).2<=1000000
 |0,b,s,_,_,_,ht,_=>ht
 |n+1,b,s,h0,hl,hk,ht,h1=>by
  have sh:=h.aa.shape b.toNat hl;have hll:=As h b;have sc:∀(l:UP) (t:VS),(∀x∈l,x∈(au p b).l)->ld t<=1000000->t.1.length+l.length<=s.1.length+300->ld (mY (jw p node n) p node l t).2<=1000000:=fun l=>by
   induction l with
   |nil=>intro t _ g _;exact g
   |cons x l ih=>
    intro t hx g g1;have hxb:=sh.2.1 x (hx x jE);have Ze:x.toNat<p.aa.nodes.length:=jB;have shx:=h.aa.shape x.toNat Ze;simp only[List.length_cons]at g1;have Vx:∀y∈l,y∈(au p b).l:=fun y hy=>hx y (by simp[hy])
    unfold mY;split
    ·exact g
    split
    ·exact ih _ Vx (HZ _ _ g jB) (by show(t.1++[_]).length+_<=_;simp;omega)
    split
    ·rename_i kb;have VC:∀y∈(au p x).l.drop 1,0<=y/\y.toNat<x.toNat/\bX p.aa.nodes y=18:=fun y hy=>by
      have Zu:y∈(nth p.aa.nodes x.toNat).l:=List.mem_of_mem_drop hy;have hyb:=shx.2.1 y Zu;refine⟨hyb.1,hyb.2,?_⟩;have hy:y∈(nth p.aa.nodes x.toNat).l.drop 1:=hy;rcases kb with kb|kb
      ·obtain⟨a,c,_,hb,hl|⟨d,hl,hd⟩⟩:=shx.1.lA kb
       ·rw[hl]at hy;simp at hy;subst hy;exact hb
       ·rw[hl]at hy;simp at hy;rcases hy with rfl|rfl
        ·exact hb
        ·exact hd
      ·obtain⟨a,c,hl,_,hb⟩:=shx.1.eF kb;rw[hl]at hy;simp at hy;subst hy;exact hb
     have ZS:=Co (p:=p) (node:=node) (n:=n) (T:=s.1.length+300) (B:=x.toNat) (fun c u c0 c1 c2 c3 c4=>A8 h node n c u c0 jB c2 c3 jB) ((au p x).l.drop 1) t VC g jB;split
     ·exact ZS.1
     ·rename_i e;have e1:=ZS.2 (Bool.not_eq_true _ ▸ e);exact ih _ Vx ZS.1 (by rw[e1];omega)
    ·exact ih _ Vx g jB
  have:=sc (au p b).l s (fun x hx=>hx) ht jB;unfold jw;split
  ·exact this
  ·rw[M3];exact this
abbrev tH:UM:=[.pt 3 0 0 0,.pt 1 0 0 0,.pt 2 0 0 0,.pt 7 0 0 0]
def fE(p:af)(node:Int)(s:VS):UL:=[(1,.var 30 (cf p)),(2,.var 3 [rI node]),(3,.var 101 [.rs 4 (s.1.length+s.2.length) 3 s.1.length]),(4,.aG 144 3 ((s.1++s.2).map lg)),(7,.var 95 [.dW 233 tH])]
attribute [go_sem] fE
def S7{p:af}(node:Int)(w:Int->VS->Bool×VS)(L:UP)(s0:VS)(I:VS->Prop)(hL:L.length<=300)(hI0:I s0)
  (hw:∀b∈L,∀s,I s->ab prog 233 (rI b::tH) (fE p node s) (fun r l'=>r=rB (w b s).1/\l'=fE p node (w b s).2)) (hI:∀b∈L,∀s,I s->(w b s).1=false->I (w b s).2) :
  ab prog 235 [aM eI 1 L,.dW 233 tH] (fE p node s0) (fun r l'=>r=rI (qv w L s0 0)/\l'=fE p node (kD w L s0).2):=by
 suffices key:∀(sR:VS) (iR:Int),sR=(kD w L s0).2->iR=qv w L s0 0->ab prog 235 [aM eI 1 L,.dW 233 tH] (fE p node s0) (fun r l'=>r=rI iR/\l'=fE p node sR) from key _ _ rfl rfl
 intro sR iR Zb hiR;refine aO func235 ntmps235 ?_;refine S ?_
 (repeat' (first|refine aq fun K hK=>?_|refine ak ?_|(refine hK _ _ ?_;clear hK K)|(refine ao ?_ ?_<;>intro hc<;>try exact jz)|refine ap ?_|exact jI|(clear hK K)))
 have Vb:=hK;clear hK;refine ee (S:=Nat×VS) [(4,2),(8,11)] (fun t=>t.1<=L.length/\I t.2/\qv w (L.drop t.1) t.2 t.1=iR/\(kD w (L.drop t.1) t.2).2=sR) (fun t=>[(8,rI t.1)]) (fun t=>⟨[1,2,3,4,7],fE p node t.2⟩) (fun t=>L.length-t.1) (0,s0) ⟨Nat.zero_le _,hI0,hiR.symm,Zb.symm⟩ (dZ jD cr) ?_;rintro⟨k,s⟩ ⟨hk,hIs,h1,h2⟩ Kr U5;simp only at hk hIs h1 h2 ⊢;by_cases I':k<L.length
 ·have YG:=hw _ (fa I') s hIs;have hIk:=hI _ (fa I') s hIs;rw[kW I',Lu]at h1;rw[kW I',EB]at h2;generalize ZZ:nth L k=x at*;generalize w x s=r at*;cases hr:r.1 with
  |true=>
   rw[if_pos hr]at h1 h2;simp only at h1 h2;subst h1 h2;rw[hr]at YG;refine S ?_
   (have W:=ZZ;repeat' (first|refine aq fun K hK=>?_|refine ak ?_|(refine hK _ _ ?_;clear hK K)|(refine ao ?_ ?_<;>intro hc<;>try exact jz)|(refine cl YG ?_)|refine ap ?_|exact jI|(clear hK K)))
   (refine bY [.tmp 4] ?_ ?_<;>(try simp only[go_sem]))
  |false=>
   rw[if_neg (by rw[hr];decide)]at h1 h2;rw[hr]at YG;refine S ?_
   (have W:=ZZ;repeat' (first|refine aq fun K hK=>?_|refine ak ?_|(refine hK _ _ ?_;clear hK K)|(refine ao ?_ ?_<;>intro hc<;>try exact jz)|(refine cl YG ?_)|refine ap ?_|exact jI|(clear hK K)))
   refine U5 _ _ (dY (k+1,r.2) ⟨by show k+1<=L.length;omega,hIk hr,h1,h2⟩ (by show L.length-(k+1)<L.length-k;omega) jD cr)
 ·have Zi:k=L.length:=jB;subst Zi;rw[List.drop_length]at h1 h2;have h1:iR=-1:=h1.symm;have h2:sR=s:=h2.symm;subst h1 h2;refine S ?_
  (repeat' (first|refine aq fun K hK=>?_|refine ak ?_|(refine hK _ _ ?_;clear hK K)|(refine ao ?_ ?_<;>intro hc<;>try exact jz)|refine Vb _ _ ?_|refine ap ?_|exact jI|(clear hK K)))
  (refine bY [.tmp 4] ?_ ?_<;>(try simp only[go_sem]))
def OK{p:af}(node:Int)(w:Int->VS->Bool×VS)(L:UP)(s0:VS)(I:VS->Prop)(hL:L.length<=300)(hI0:I s0)
  (hw:∀b∈L,∀s,I s->ab prog 233 (rI b::tH) (fE p node s) (fun r l'=>r=rB (w b s).1/\l'=fE p node (w b s).2)) (hI:∀b∈L,∀s,I s->(w b s).1=false->I (w b s).2) :
  ab prog 234 [aM eI 1 L,.dW 233 tH] (fE p node s0) (fun r l'=>r=rB (kD w L s0).1/\l'=fE p node (kD w L s0).2):=by
 have hi:=S7 node w L s0 I hL hI0 hw hI;rw[Jq w L s0 0 jB];generalize qv w L s0 0=i at*;generalize (kD w L s0).2=sR at*;refine aO func234 ntmps234 ?_;refine S ?_
 (repeat' (first|refine aq fun K hK=>?_|refine ak ?_|(refine hK _ _ ?_;clear hK K)|(refine ao ?_ ?_<;>intro hc<;>try exact jz)|refine cm (hi) ?_|refine ap ?_|exact jI|(clear hK K)))
 (refine bY [.tmp 4] ?_ ?_<;>(try simp only[go_sem]))
theorem HS{p:af}(h:p8 p)(node:Int):∀(n:Nat) (b:Int) (s:VS),0<=b->b.toNat<p.aa.nodes.length->b.toNat<n->bX p.aa.nodes b=18->ld s<=1000000->s.1.length+300*b.toNat<=900000->
  ab prog 233 (rI b::tH) (fE p node s) (fun r l'=>r=rB (jw p node n b s).1/\l'=fE p node (jw p node n b s).2)
 |0,b,s,h0,hl,hn,hk,ht,h1=>by omega
 |n+1,b,s,h0,hl,hn,hk,ht,h1=>by
  have ih:=HS h node n;have sh:=h.aa.shape b.toNat hl;have Zw:=sh.1.block hk;have Wv:=sh.2.1;have XG:=h.types;have V5:=h.slots;have hll:=As h b;have haS:=h.aa.many;have key:∀(rr:Bool×VS) (sR:VS) (bR:Bool),mY (jw p node n) p node (au p b).l s=rr->bR=rr.1->sR=(if rr.1=true then rr.2 else oC s.1.length rr.2)->ab prog 233 (rI b::tH) (fE p node s) (fun r l'=>r=rB bR/\l'=fE p node sR):=by
   intro rr sR bR hrr ZD Zb;have hL0:(au p b).l=(nth p.aa.nodes b.toNat).l:=rfl;rw[hL0]at hrr hll;generalize hL:(nth p.aa.nodes b.toNat).l=L at*;unfold ld at ht;refine aO func233 ntmps233 ?_;refine S ?_
   (have W:=hL;repeat' (first|refine aq fun K hK=>?_|refine ak ?_|(refine hK _ _ ?_;clear hK K)|(refine ao ?_ ?_<;>intro hc<;>try exact jz)|refine ap ?_|exact jI|(clear hK K)))
   have Vb:=hK;clear hK;refine ee (S:=Nat×VS) [(6,1),(9,2),(21,54)] (fun t=>t.1<=L.length/\ld t.2<=1000000/\t.2.1.length<=s.1.length+t.1/\s.1.length<=t.2.1.length/\mY (jw p node n) p node (L.drop t.1) t.2=rr) (fun t=>[(21,rI t.1),(6,rB false)]) (fun t=>⟨[1,2,3,4,7],fE p node t.2⟩) (fun t=>L.length-t.1) (0,s) ⟨Nat.zero_le _,ht,Nat.le_refl _,Nat.le_refl _,hrr⟩ (dZ jD cr) ?_;rintro⟨k,t⟩ ⟨Vr,htt,htl,htg,WR⟩ Kr U5;simp only at Vr htt htl htg WR ⊢;by_cases I':k<L.length
   rotate_left
   ·have Zi:k=L.length:=jB;subst Zi;rw[List.drop_length]at WR;have WR:rr=(false,t):=WR.symm;subst WR;have ZD:bR=false:=ZD;have Zb:sR=oC s.1.length t:=Zb;have U4:(oC s.1.length t).1.length=s.1.length:=by unfold oC;simp;omega
    have Wt:(oC s.1.length t).2.length+s.1.length=t.1.length+t.2.length:=by unfold oC;simp;omega
    have WL:(oC s.1.length t).1++(oC s.1.length t).2=t.1++t.2:=by unfold oC;simp[<-List.append_assoc]
    refine S ?_
    (repeat' (first|refine aq fun K hK=>?_|refine ak ?_|(refine hK _ _ ?_;clear hK K)|(refine ao ?_ ?_<;>intro hc<;>try exact jz)|refine Vb _ _ ?_|refine ap ?_|exact jI|(clear hK K)))
    subst ZD Zb
    (refine bY [.tmp 6] ?_ ?_<;>(try simp only[go_sem]))
    show[_,_,(3,_),(4,_),_]=[_,_,(3,_),(4,_),_];rw[<-List.map_append,<-List.map_append,WL,U4,show s.1.length+(oC s.1.length t).2.length=t.1.length+t.2.length from jB]
   have hx:=Zw _ (fa I');have hx2:=Wv _ (fa I');rw[kW I']at WR;unfold mY at WR;generalize ZZ:nth L k=x at*;have Ze:x.toNat<p.aa.nodes.length:=jB;have shx:=h.aa.shape x.toNat Ze;have Zs:au p x=nth p.aa.nodes x.toNat:=rfl;rw[Zs]at WR;by_cases hxn:x=node
   ·rw[if_pos hxn]at WR;subst WR;have ZD:bR=true:=ZD;have Zb:sR=t:=Zb;subst ZD Zb;refine S ?_
    (have W:=jA ZZ hxn;repeat' (first|refine aq fun K hK=>?_|refine ak ?_|(refine hK _ _ ?_;clear hK K)|(refine ao ?_ ?_<;>intro hc<;>try exact jz)|refine al 8 ?_|refine ap ?_|exact jI|(clear hK K)))
    (refine aW [.tmp 6] ?_;try simp only[go_sem])
   rw[if_neg hxn]at WR;by_cases k10:(nth p.aa.nodes x.toNat).kind=10
   ·rw[if_pos k10]at WR;obtain⟨a,ha,_⟩:=shx.1.right (.inl k10);have Za:=shx.2.1 a (by rw[ha];simp);have ha0:nth (nth p.aa.nodes x.toNat).l 0=a:=by rw[ha];rfl
    have ha1:(nth p.aa.nodes x.toNat).l.length=1:=by rw[ha];rfl
    unfold ld at htt;refine S ?_
    (have W:=jA ZZ (jA hxn (jA k10 (jA ha0 (ha1))));repeat' (first|refine aq fun K hK=>?_|refine ak ?_|(with_reducible refine gR 9 ?_);refine dE 9 (ba 0 20) mixed ?_|(refine hK _ _ ?_;clear hK K)|(refine ao ?_ ?_<;>intro hc<;>try exact jz)|refine al 8 ?_|refine q5 (enc:=lg) t.1 t.2 [⟨(nth p.aa.nodes x.toNat).name,nth p.types a.toNat,nth p.slots x.toNat⟩] ?_|refine ap ?_|exact jI|(clear hK K)))
    have hvo:(⟨(nth p.aa.nodes x.toNat).name,nth p.types a.toNat,nth p.slots x.toNat⟩:bI)=qE p x:=by unfold qE;rw[Zs,ha0]
    rw[hvo];have YI:=HZ (qE p x) t (T:=1000000) htt jB;refine U5 _ _ (po [8] (k+1,rJ (qE p x) t) ⟨by show k+1<=L.length;omega,YI,by show(t.1++[_]).length<=s.1.length+(k+1);simp;omega,by show s.1.length<=(t.1++[_]).length;simp;omega,WR⟩ (by show L.length-(k+1)<L.length-k;omega) rfl Sd ?_ jo);unfold fE rJ;simp only[List.length_append,List.length_cons,List.length_nil,List.length_drop,List.map_append,List.map_cons,List.map_nil];rfl
   rw[if_neg k10]at WR;by_cases kb:(nth p.aa.nodes x.toNat).kind=15\/(nth p.aa.nodes x.toNat).kind=16
   ·rw[if_pos kb]at WR;have VC:∀y∈(nth p.aa.nodes x.toNat).l.drop 1,0<=y/\y.toNat<x.toNat/\bX p.aa.nodes y=18:=fun y hy=>by
     have Zu:y∈(nth p.aa.nodes x.toNat).l:=List.mem_of_mem_drop hy;have hyb:=shx.2.1 y Zu;refine⟨hyb.1,hyb.2,?_⟩;rcases kb with kb|kb
     ·obtain⟨a,c,_,hb,hl|⟨d,hl,hd⟩⟩:=shx.1.lA kb
      ·rw[hl]at hy;simp at hy;subst hy;exact hb
      ·rw[hl]at hy;simp at hy;rcases hy with rfl|rfl
       ·exact hb
       ·exact hd
     ·obtain⟨a,c,hl,_,hb⟩:=shx.1.eF kb;rw[hl]at hy;simp at hy;subst hy;exact hb
    have Wr:1<=(nth p.aa.nodes x.toNat).l.length:=by
     rcases kb with kb|kb
     ·obtain⟨a,c,_,hb,hl|⟨d,hl,hd⟩⟩:=shx.1.lA kb<;>(rw[hl];simp)
     ·obtain⟨a,c,hl,_,hb⟩:=shx.1.eF kb;rw[hl];simp
    have hdt:List.take ((nth p.aa.nodes x.toNat).l.length-1) (List.drop 1 (nth p.aa.nodes x.toNat).l)=List.drop 1 (nth p.aa.nodes x.toNat).l:=List.take_of_length_le jE;have u':=As h x;rw[Zs]at u';have ZE:=OK (p:=p) node (jw p node n) ((nth p.aa.nodes x.toNat).l.drop 1) t (fun u=>ld u<=1000000/\u.1.length<=s.1.length+300) jF ⟨htt,jB⟩
     (fun y hy u hu=>ih y u (VC y hy).1 (by have:=(VC y hy).2.1;omega) (by have:=(VC y hy).2.1;omega) (VC y hy).2.2 hu.1 (by have:=(VC y hy).2.1;have:=hu.2;omega))
     (fun y hy u hu hf=>⟨A8 h node n y u (VC y hy).1 (by have:=(VC y hy).2.1;omega) (VC y hy).2.2 hu.1 (by have:=(VC y hy).2.1;have:=hu.2;omega),by rw[Ke hf];exact hu.2⟩)
    have ZS:=Co (p:=p) (node:=node) (n:=n) (T:=s.1.length+300) (B:=x.toNat) (fun c u c0 c1 c2 c3 c4=>A8 h node n c u c0 jB c2 c3 jB) ((nth p.aa.nodes x.toNat).l.drop 1) t VC htt jB;generalize kD (jw p node n) ((nth p.aa.nodes x.toNat).l.drop 1) t=KR at*;cases hKR:KR.1 with
    |true=>
     rw[if_pos hKR]at WR;subst WR;have ZD:bR=true:=ZD;have Zb:sR=KR.2:=Zb;subst ZD Zb;rw[hKR]at ZE;refine S ?_
     (have W:=jA ZZ (jA hxn (jA k10 (hdt)));repeat' (first|refine aq fun K hK=>?_|refine ak ?_|(with_reducible refine gR 10 ?_);refine dC 10 ([3,4],[],[72]) [] (ba 0 16) mixed ?_|(refine hK _ _ ?_;clear hK K)|(refine ao ?_ ?_<;>intro hc<;>try exact jz)|refine al 8 ?_|(refine Jf ZE ?_)|(refine bD ?_ ?_<;>intro hc<;>try exact jz)|refine ap ?_|exact jI|(clear hK K)))
     all_goals(refine aW [.tmp 6] ?_;try simp only[go_sem])
    |false=>
     have W5:=ZS.2 hKR;rw[if_neg (by rw[hKR];decide)]at WR;rw[hKR]at ZE;refine S ?_
     (have W:=jA ZZ (jA hxn (jA k10 (hdt)));repeat' (first|refine aq fun K hK=>?_|refine ak ?_|(with_reducible refine gR 10 ?_);refine dC 10 ([3,4],[],[72]) [] (ba 0 16) mixed ?_|(refine hK _ _ ?_;clear hK K)|(refine ao ?_ ?_<;>intro hc<;>try exact jz)|refine al 8 ?_|(refine Jf ZE ?_)|(refine bD ?_ ?_<;>intro hc<;>try exact jz)|refine ap ?_|exact jI|(clear hK K)))
     all_goals refine U5 _ _ (po [8] (k+1,KR.2) ⟨by show k+1<=L.length;omega,ZS.1,by show KR.2.1.length<=s.1.length+(k+1);rw[W5];omega,by show s.1.length<=KR.2.1.length;rw[W5];omega,WR⟩ (by show L.length-(k+1)<L.length-k;omega) rfl Sd (by simp only[go_sem];(try rfl)) jo)
   ·rw[if_neg kb]at WR;have kb1:¬(nth p.aa.nodes x.toNat).kind=15:=fun h=>kb (.inl h)
    have kb2:¬(nth p.aa.nodes x.toNat).kind=16:=fun h=>kb (.inr h)
    refine S ?_
    (have W:=jA ZZ (jA hxn (jA k10 (jA kb1 (kb2))));repeat' (first|refine aq fun K hK=>?_|refine ak ?_|(with_reducible refine gR 10 ?_);refine dC 10 ([3,4],[],[72]) [] (ba 0 16) mixed ?_|(refine hK _ _ ?_;clear hK K)|(refine ao ?_ ?_<;>intro hc<;>try exact jz)|refine al 8 ?_|refine ap ?_|exact jI|(clear hK K)))
    refine U5 _ _ (po [8] (k+1,t) ⟨by show k+1<=L.length;omega,htt,by show t.1.length<=s.1.length+(k+1);omega,htg,WR⟩ (by show L.length-(k+1)<L.length-k;omega) rfl Sd (by simp only[go_sem];(try rfl)) jo)
  have Vc:=key _ _ _ rfl rfl rfl;unfold jw;cases e:(mY (jw p node n) p node (au p b).l s).1 with
  |true=>rw[e]at Vc;simp only[if_true]at Vc ⊢;rw[e];exact Vc
  |false=>rw[e]at Vc;simp only[Bool.false_eq_true,if_false]at Vc ⊢;exact Vc
def Hx{p:af}(h:p8 p)(VY:∀k,k<p.aa.nodes.length->0<=nth p.fn k/\nth p.fn k<p.aa.aw.length)(node:Int)(h0:0<=node)(h1:node.toNat<p.aa.nodes.length):aB prog 229 [.agg (cf p),rI node] (aM lg 3 (ii p node)):=by
 obtain⟨f0,f1⟩:=VY _ h1;have hlf:=h.fn;have haS:=h.aa.many;have Zc:(nth p.fn node.toNat).toNat<p.aa.aw.length:=jB;have Wi:=pB h.aa Zc;have X3:=h.aa.body _ (fa Zc);have hps:=(h.aa.fn _ (fa Zc)).2;have WB:=De (p:=p) (node:=node) p.aa.nodes.length (nth p.aa.aw (nth p.fn node.toNat).toNat).body (kR (nth p.aa.aw (nth p.fn node.toNat).toNat).params 0,[]);have Xv:=HS h node p.aa.nodes.length (nth p.aa.aw (nth p.fn node.toNat).toNat).body (kR (nth p.aa.aw (nth p.fn node.toNat).toNat).params 0,[]) Wi.1 (by have:=Wi.1;have:=Wi.2;omega) (by have:=Wi.1;have:=Wi.2;omega) X3 (by unfold ld;rw[xz];simp;omega) (by show(kR _ _).length+_<=_;rw[xz];have:=Wi.1;have:=Wi.2;omega);unfold ii;simp only at WB;generalize lG p node p.aa.nodes.length (nth p.aa.aw (nth p.fn node.toNat).toNat).body (kR (nth p.aa.aw (nth p.fn node.toNat).toNat).params 0)=O at*;generalize jw p node p.aa.nodes.length (nth p.aa.aw (nth p.fn node.toNat).toNat).body (kR (nth p.aa.aw (nth p.fn node.toNat).toNat).params 0,[])=R at*;generalize hF:nth p.fn node.toNat=g at*;generalize hG:nth p.aa.aw g.toNat=f at*;refine bF func229 ntmps229 ?_
 (have W:=jA hF hG;repeat' (first|refine aq fun K hK=>?_|refine ak ?_|(with_reducible refine gR 1 ?_);refine dE 1 (ba 0 12) mixed ?_|(refine hK _ _ ?_;clear hK K)|(refine ao ?_ ?_<;>intro hc<;>try exact jz)|refine bx 1 ?_|refine bx 2 ?_|refine al 5 ?_|refine al 3 ?_|refine ap ?_|exact jI|(clear hK K)))
 refine jW (dT.gl 4 3 0 144 3 rfl jC rfl rfl) ?_
 (refine S ?_;try exact jI)
 have Vb:=hK;clear hK;have XR:∀k,(kR (f.params.take k) 0).length=min k f.params.length:=fun k=>by rw[xz];simp
 refine ee (S:=Nat) [(7,2),(23,15)] (fun k=>k<=f.params.length) (fun k=>[(23,rI k)]) (fun k=>⟨[],[(1,.var 30 (cf p)),(2,.var 3 [rI node]),(5,.var 98 (fY f)),(3,.var 101 [.rs 4 k 3 k]),(4,.aG 144 3 ((kR (f.params.take k) 0).map lg))]⟩) (fun k=>f.params.length-k) 0 jB (dZ rfl cr) ?_;rintro k hk Kr U5;have Wy:(kR (f.params.take k) 0).length=k:=by rw[XR];omega
 by_cases I':k<f.params.length
 ·(refine S ?_;try exact jI)
  (have W:=Wy;repeat' (first|refine aq fun K hK=>?_|refine ak ?_|(refine hK _ _ ?_;clear hK K)|(refine ao ?_ ?_<;>intro hc<;>try exact jz)|refine al 6 ?_|refine ap ?_|exact jI|(clear hK K)))
  refine U5 _ _ (po [6] (k+1) jB (by show f.params.length-(k+1)<f.params.length-k;omega) rfl Sd ?_ jo);show Hp.mk _ [_,_,_,_,_]=Hp.mk _ [_,_,_,_,(4,.aG _ _ ((kR (f.params.take (k+1)) 0).map lg))];rw[tT I',Kv,List.map_append];have:((0:Int)+(f.params.take k).length)=(k:Int):=by simp;omega
  rw[this];rfl
 ·have Zi:k=f.params.length:=jB;subst Zi;rw[List.take_length]at Wy ⊢;generalize kR f.params 0=V at*;rw[<-Wy];cases hR:R.1 with
  |true=>
   cases O with
   |none=>rw[WB.1]at hR;cases hR
   |some W=>
    have hW:R.2.1=W:=WB.2;rw[hR]at Xv;refine S ?_
    (repeat' (first|refine aq fun K hK=>?_|refine ak ?_|(refine hK _ _ ?_;clear hK K)|(refine ao ?_ ?_<;>intro hc<;>try exact jz)|refine al 7 ?_|(refine cl Xv ?_)|refine Vb _ _ ?_|refine ap ?_|exact jI|(clear hK K)))
    subst hW;refine fH [.tmp 4] ?_;exact cY.pM R.2.1 R.2.2 rfl (by show some (Row.aG _ _ _)=some (Row.aG _ _ _);rw[List.map_append]) rfl rfl
  |false=>
   cases O with
   |some W=>rw[WB.1]at hR;cases hR
   |none=>
    rw[hR]at Xv;refine S ?_
    (repeat' (first|refine aq fun K hK=>?_|refine ak ?_|(refine hK _ _ ?_;clear hK K)|(refine ao ?_ ?_<;>intro hc<;>try exact jz)|refine al 7 ?_|(refine cl Xv ?_)|refine Vb _ _ ?_|refine ap ?_|exact jI|(clear hK K)))
    refine fH [.tmp 4] ?_;exact cY.nil _ _
end Go.Proofs.YtijdhbokcdpklaaGreatDoor
namespace Go.Proofs.YtijdhbokcdpklaaGreatDoor
open Go Go.Gd Tryz Go.Gd.MV
def sE(nm:UR)(v:aj):UL:=[(5,.var 9 [rS nm]),(7,.var 42 (bW v))]
attribute [go_sem] sE Bool.false_and Bool.true_and
def J7(nm:UR)(v:aj):∀i r,aC (sE nm v) i=some r->aZ (fun i=>(ids (sE nm v)).contains i) r.cells=true:=fun i r h=>by
 unfold sE at h;simp only[aC]at h;split at h
 ·cases h;rfl
 ·split at h
  ·cases h;rfl
  ·cases h
def Hc(nm:UR)(v:aj):(ids (sE nm v)).Nodup:=by simp[sE,ids]
def FG{e tl:UL}(U1:∀i,i<1000->aC e i=none){nm:UR}{v:aj}(h5:aC tl 5=some (.var 9 [rS nm]))(h7:aC tl 7=some (.var 42 (bW v))):∀i r,aC (sE nm v) i=some r->aC (tie e tl) i=some r:=fun i r h=>by
 unfold sE at h;simp only[aC]at h;split at h
 ·rename_i e;subst e;cases h;rw[kf,U1 5 jC];exact h5
 ·split at h
  ·rename_i e;subst e;cases h;rw[kf,U1 7 jC];exact h7
  ·cases h
def LX(nm:UR)(v:aj)(x:bI):ab prog 231 [.agg (lg x),.pt 5 0 0 0,.pt 7 0 0 0] (sE nm v) (fun r l=>r=rB (decide (x.name=nm/\x.ty=v.ty))/\l=sE nm v):=by
 suffices key:∀b,decide (x.name=nm/\x.ty=v.ty)=b->ab prog 231 [.agg (lg x),.pt 5 0 0 0,.pt 7 0 0 0] (sE nm v) (fun r l=>r=rB b/\l=sE nm v) from key _ rfl
 intro b hb;by_cases c1:x.name=nm
 ·by_cases c2:x.ty=v.ty
  ·rw[decide_eq_true ⟨c1,c2⟩]at hb;subst hb;refine aO func231 ntmps231 ?_;refine S ?_
   (have W:=jA c1 c2;repeat' (first|refine aq fun K hK=>?_|refine ak ?_|(refine hK _ _ ?_;clear hK K)|(refine ao ?_ ?_<;>intro hc<;>try exact jz)|refine bx 9 ?_|refine ap ?_|exact jI|(clear hK K)))
   (refine aW [.tmp 4] ?_;try simp only[go_sem])
  ·rw[decide_eq_false (fun h=>c2 h.2)]at hb;subst hb;refine aO func231 ntmps231 ?_;refine S ?_
   (have W:=jA c1 c2;repeat' (first|refine aq fun K hK=>?_|refine ak ?_|(refine hK _ _ ?_;clear hK K)|(refine ao ?_ ?_<;>intro hc<;>try exact jz)|refine bx 9 ?_|refine ap ?_|exact jI|(clear hK K)))
   (refine aW [.tmp 4] ?_;try simp only[go_sem])
 ·rw[decide_eq_false (fun h=>c1 h.1)]at hb;subst hb;refine aO func231 ntmps231 ?_;refine S ?_
  (have W:=c1;repeat' (first|refine aq fun K hK=>?_|refine ak ?_|(refine hK _ _ ?_;clear hK K)|(refine ao ?_ ?_<;>intro hc<;>try exact jz)|refine bx 9 ?_|refine ap ?_|exact jI|(clear hK K)))
  (refine aW [.tmp 4] ?_;try simp only[go_sem])
def IE(nm:UR)(v:aj)(L:List bI)(hL:L.length<=100000):ab prog 230 [aM lg 3 L,.dW 231 [.pt 5 0 0 0,.pt 7 0 0 0]] (sE nm v) (fun r l=>r=rI (iB nm v.ty L 0)/\l=sE nm v):=by
 suffices key:∀z,iB nm v.ty L 0=z->ab prog 230 [aM lg 3 L,.dW 231 [.pt 5 0 0 0,.pt 7 0 0 0]] (sE nm v) (fun r l=>r=rI z/\l=sE nm v) from key _ rfl
 intro z hz;refine aO func230 ntmps230 ?_;refine S ?_
 (repeat' (first|refine aq fun K hK=>?_|refine ak ?_|(refine hK _ _ ?_;clear hK K)|(refine ao ?_ ?_<;>intro hc<;>try exact jz)|refine ap ?_|exact jI|(clear hK K)))
 have Vb:=hK;clear hK;refine ee (S:=Nat) [(4,2),(8,11)] (fun k=>k<=L.length/\∀j,j<k->¬((nth L j).name=nm/\(nth L j).ty=v.ty)) (fun k=>[(8,rI k)]) (fun _=>⟨[5,7],sE nm v⟩) (fun k=>L.length-k) 0 ⟨Nat.zero_le _,fun j h=>jB⟩ (dZ rfl cr) ?_;rintro k ⟨hk,U8⟩ Kr U5;by_cases I':k<L.length
 ·have U7:=LX nm v (nth L k);by_cases c:(nth L k).name=nm/\(nth L k).ty=v.ty
  ·rw[decide_eq_true c]at U7;have:=O8 I' c U8;rw[hz]at this;subst this;refine S ?_
   (have W:=I';repeat' (first|refine aq fun K hK=>?_|refine ak ?_|(refine hK _ _ ?_;clear hK K)|(refine ao ?_ ?_<;>intro hc<;>try exact jz)|(refine cl U7 ?_)|refine ap ?_|exact jI|(clear hK K)))
   (refine aW [.tmp 4] ?_;try simp only[go_sem])
  ·rw[decide_eq_false c]at U7;refine S ?_
   (have W:=I';repeat' (first|refine aq fun K hK=>?_|refine ak ?_|(refine hK _ _ ?_;clear hK K)|(refine ao ?_ ?_<;>intro hc<;>try exact jz)|(refine cl U7 ?_)|refine ap ?_|exact jI|(clear hK K)))
   exact U5 _ _ (dY (k+1) ⟨jB,fun j hj=>by
    by_cases e:j<k
    ·exact U8 j e
    ·rw[show j=k from jB];exact c⟩ (by show L.length-(k+1)<L.length-k;omega) rfl cr)
 ·have:=UG (nm:=nm) (ty:=v.ty) (l:=L) fun j hj=>U8 j jB
  rw[hz]at this;subst this;refine S ?_
  (have W:=I';repeat' (first|refine aq fun K hK=>?_|refine ak ?_|(refine hK _ _ ?_;clear hK K)|(refine ao ?_ ?_<;>intro hc<;>try exact jz)|refine Vb _ _ ?_|refine ap ?_|exact jI|(clear hK K)))
  (refine aW [.tmp 4] ?_;try simp only[go_sem])
end Go.Proofs.YtijdhbokcdpklaaGreatDoor
namespace Go.Proofs.YtijdhbokcdpklaaGreatDoor
open Go Go.Gd Tryz
theorem DR{p:af}(h:gi p):∀(j i:Nat),j<p.aa.aw.length->i<j->(nth p.aa.aw i).body.toNat<kS p.aa j
 |0,i,_,h2=>by omega
 |j+1,i,h1,h2=>by
  have hc:=(h.aw j jB).chain.le;have e:kS p.aa (j+1)=(nth p.aa.aw j).body.toNat+1:=by unfold kS;rw[jN];rfl
  rw[e];by_cases k:i=j
  ·subst k;omega
  ·have:=DR h j i jB jB;omega
variable{p:af}
def Ny(h:gi p){i j:Nat}(hi:i<p.aa.aw.length)(hj:j<p.aa.aw.length){a:Nat}(h1:kS p.aa i<=a)(h2:a<=(nth p.aa.aw i).body.toNat)(h3:kS p.aa j<=a)(h4:a<=(nth p.aa.aw j).body.toNat):i=j:=by
 rcases Nat.lt_trichotomy i j with k|k|k
 ·have:=DR h j i hj k;omega
 ·exact k
 ·have:=DR h i j hi k;omega
def tp(p:af)(j:Nat)(v:bI):Prop:=0<=v.slot/\v.slot<nth p.size j
def Na(h:p8 p){x:Int}(hx:x.toNat<p.aa.nodes.length)(kb:(nth p.aa.nodes x.toNat).kind=15\/(nth p.aa.nodes x.toNat).kind=16):∀y∈(nth p.aa.nodes x.toNat).l.drop 1,bX p.aa.nodes y=18:=fun y hy=>by
 have shx:=h.aa.shape x.toNat hx;rcases kb with kb|kb
 ·obtain⟨a,c,_,hb,hl|⟨d,hl,hd⟩⟩:=shx.1.lA kb
  ·rw[hl]at hy;simp at hy;subst hy;exact hb
  ·rw[hl]at hy;simp at hy;rcases hy with rfl|rfl
   ·exact hb
   ·exact hd
 ·obtain⟨a,c,hl,_,hb⟩:=shx.1.eF kb;rw[hl]at hy;simp at hy;subst hy;exact hb
theorem Iw{p:af}(h:gi p){j:Nat}(hj:j<p.aa.aw.length)(node:Int):∀(n:Nat) (b:Int) (vars R:List bI),nK p j ⟨b,0⟩->(∀v∈vars,tp p j v)->lG p node n b vars=some R->(∀v∈R,tp p j v)/\kS p.aa j<=node.toNat/\node.toNat<=(nth p.aa.aw j).body.toNat
 |0,b,vars,R,_,_,e=>by cases e
 |n+1,b,vars,R,hb,hv,e=>by
  have ih:=Iw h hj node n;have hf:=h.aw j hj;have aF:∀(l:UP) (vs R:List bI),(∀y∈l,nK p j ⟨y,0⟩)->(∀v∈vs,tp p j v)->pk (lG p node n) vs l=some R->(∀v∈R,tp p j v)/\kS p.aa j<=node.toNat/\node.toNat<=(nth p.aa.aw j).body.toNat:=fun l=>by
   induction l with
   |nil=>intro vs R _ _ e;cases e
   |cons y l ihl=>
    intro vs R hl Xp e;unfold pk at e;cases e1:lG p node n y vs with
    |none=>rw[e1]at e;exact ihl vs R (fun z hz=>hl z (by simp[hz])) Xp e
    |some R'=>rw[e1]at e;cases e;exact ih y vs _ (hl y jE) Xp e1
  have sc:∀(l:UP) (vs R:List bI),(∀x∈l,x∈wN p b)->(∀v∈vs,tp p j v)->pS (lG p node n) p node l vs=some R->(∀v∈R,tp p j v)/\kS p.aa j<=node.toNat/\node.toNat<=(nth p.aa.aw j).body.toNat:=fun l=>by
   induction l with
   |nil=>intro vs R _ _ e;cases e
   |cons x l ihl=>
    intro vs R hx Xp e;obtain⟨x0,x1,x2,x3⟩:=hb.aF h (by omega:(0:Int)<=j) jB (hx x jE);have x1:x.toNat<b.toNat:=x1;have x2:kS p.aa j<=x.toNat:=by rw[Int.toNat_natCast]at x2;exact x2
    have X6:b.toNat<=(nth p.aa.aw j).body.toNat:=by have:=hb.hi;rw[Int.toNat_natCast]at this;exact this
    have Wi:=pB h.ok.aa hj;have Ze:x.toNat<p.aa.nodes.length:=by have:=Wi.1;have:=Wi.2;omega
    have hak:∀v∈l9 p x vs,tp p j v:=fun v Vq=>by
     unfold l9 at Vq;split at Vq
     ·rename_i k10;rcases List.mem_append.1 Vq with Vq|Vq
      ·exact Xp v Vq
      ·rw[List.mem_singleton]at Vq;subst Vq;have k10:(nth p.aa.nodes x.toNat).kind=10:=k10;exact hf.all x.toNat x2 jB (by unfold jY;omega)
     ·exact Xp v Vq
    unfold pS at e;split at e
    ·rename_i ex;cases e;rw[<-ex];exact⟨Xp,x2,jB⟩
    ·cases e1:(if(au p x).kind=15\/(au p x).kind=16 then pk (lG p node n) (l9 p x vs) ((au p x).l.drop 1)else none)with
     |none=>rw[e1]at e;exact ihl _ R (fun y hy=>hx y (by simp[hy])) hak e
     |some R'=>
      rw[e1]at e;cases e;split at e1
      ·rename_i kb;refine aF _ _ _ (fun y hy=>?_) hak e1;have Zu:y∈(nth p.aa.nodes x.toNat).l:=List.mem_of_mem_drop hy;have hyb:=(h.ok.aa.shape x.toNat Ze).2.1 y Zu;have U1:=hf.chain.closed x.toNat x2 jB y Zu;exact⟨hyb.1,by rw[Int.toNat_natCast];exact U1,by rw[Int.toNat_natCast];show y.toNat<=_;omega,Na h.ok Ze kb y hy,Int.le_refl _,by show(0:Int)<=_;omega⟩
      ·cases e1
  exact sc (au p b).l vars R (fun x hx=>hx) hv e
theorem Hd{z:Int}:∀(l:List bM) (i:Int),0<=i->i+l.length<=z->∀v∈kR l i,0<=v.slot/\v.slot<z
 |[],i,_,_,v,hv=>by cases hv
 |x::l,i,h0,h1,v,hv=>by
  simp only[List.length_cons]at h1;simp only[kR,List.mem_cons]at hv;rcases hv with rfl|hv
  ·exact⟨h0,by show i<z;omega⟩
  ·exact Hd l (i+1) jB jB v hv
def N3(h:gi p)(VY:∀k,k<p.aa.nodes.length->0<=nth p.fn k/\nth p.fn k<p.aa.aw.length){node:Int}(h1:node.toNat<p.aa.nodes.length){j:Nat}(hj:j<p.aa.aw.length)(h2:kS p.aa j<=node.toNat)(h3:node.toNat<=(nth p.aa.aw j).body.toNat):∀v∈ii p node,tp p j v:=by
 obtain⟨f0,f1⟩:=VY _ h1;have Zc:(nth p.fn node.toNat).toNat<p.aa.aw.length:=jB;have Wi:=pB h.ok.aa Zc;have hf:=h.aw _ Zc;unfold ii;cases e:lG p node p.aa.nodes.length (nth p.aa.aw (nth p.fn node.toNat).toNat).body (kR (nth p.aa.aw (nth p.fn node.toNat).toNat).params 0)with
 |none=>intro v hv;cases hv
 |some R=> obtain⟨a,b,c⟩:=Iw h Zc node _ _ _ R ⟨Wi.1,by rw[Int.toNat_natCast];exact hf.chain.le,by rw[Int.toNat_natCast];exact Nat.le_refl _,h.ok.aa.body _ (fa Zc),Int.le_refl _,by show(0:Int)<=_;omega⟩ (Hd _ _ (Int.le_refl _) (by have:=hf.vm;omega)) e;rw[Ny h hj Zc h2 h3 b c];exact a
def Iu(h:p8 p)(VY:∀k,k<p.aa.nodes.length->0<=nth p.fn k/\nth p.fn k<p.aa.aw.length){node:Int}(h1:node.toNat<p.aa.nodes.length):(ii p node).length<=100000:=by
 obtain⟨f0,f1⟩:=VY _ h1;have Zc:(nth p.fn node.toNat).toNat<p.aa.aw.length:=jB;have hps:=(h.aa.fn _ (fa Zc)).2;have hm:=h.aa.many;unfold ii;cases e:lG p node p.aa.nodes.length (nth p.aa.aw (nth p.fn node.toNat).toNat).body (kR (nth p.aa.aw (nth p.fn node.toNat).toNat).params 0)with
 |none=>exact Nat.zero_le _
 |some R=> have:=JR (As h) _ _ _ _ e;rw[xz]at this;show R.length<=_;omega
end Go.Proofs.YtijdhbokcdpklaaGreatDoor
namespace Go.Proofs.YtijdhbokcdpklaaGreatDoor
open Go Go.Gd Tryz Go.Gd.MV
def gu(C:aI)(m:MV):Int:=(nth (m.dJ C).calls ((m.dJ C).calls.length-1)).node
def dw(p:af)(C:aI)(m:MV)(nm:UR)(v:aj):Option MV:=
 if(m.status=2\/m.status=3)\/mg v=false\/v.ty=4 then none
 else if iB nm v.ty (ii p (gu C m)) 0<0 then none
 else some (rC m (nth (ii p (gu C m)) (iB nm v.ty (ii p (gu C m)) 0).toNat).slot.toNat v)
section
variable {p:af}{C:aI}{m:MV}{N:NM}{e:UL}(hR:bL p C m N e)(hk:uJ C m)(nm:UR)(v:aj)
include hR hk
theorem R3(h:(m.status=2\/m.status=3)\/mg v=false\/v.ty=4):cW prog 227 [.agg (cf p),mP N,rS nm,.agg (bW v)] e (rB false) e:=by
 have Wz:=xh hR hk;have U1:=hR.ok.low;have Z0:=vw v;have P':(m.dJ C).status=m.status:=rfl;refine⟨?_,hR.ok,hR.ok,fun _ h=>h,?_⟩;rotate_left
 ·simp only[aZ,AV.all,gf hR.root,Bool.and_self,Bool.and_true,bW];rfl
 rw[<-P']at h;generalize m.dJ C=Sh at*;clear P';have hq:(Sh.status=2/\True/\True)\/(¬Sh.status=2/\Sh.status=3/\True)\/(¬Sh.status=2/\¬Sh.status=3/\mg v=false)\/(¬Sh.status=2/\¬Sh.status=3/\(mg v=true/\v.ty=4)):=by
  by_cases a:Sh.status=2
  ·exact .inl ⟨a,trivial,trivial⟩
  by_cases b:Sh.status=3
  ·exact .inr (.inl ⟨a,b,trivial⟩)
  cases c:mg v
  ·exact .inr (.inr (.inl ⟨a,b,rfl⟩))
  ·refine .inr (.inr (.inr ⟨a,b,rfl,?_⟩));rcases h with h|h|h
   ·omega
   ·rw[c]at h;cases h
   ·exact h
 rcases hq with⟨q1,q2,q3⟩|⟨q1,q2,q3⟩|⟨q1,q2,q3⟩|⟨q1,q2,q3,q4⟩
 all_goals try rw[q3]at Z0
 all_goals
  refine aO (L:=ids e) func227 ntmps227 ?_ (hL:=rfl);generalize hB:ids e=B;refine fc ?_
  (have W:=jA U1 (jA q1 (q2));repeat' (first|refine aq fun K hK=>?_|refine ak ?_|(refine hK _ _ ?_;clear hK K)|(refine ao ?_ ?_<;>intro hc<;>try exact jz)|refine aV 4 ?_|refine aV 5 ?_|refine aV 7 ?_|refine cC 9 ?_|refine cq (Z0) ?_|(refine⟨rB false,?_⟩;refine S ?_)|refine cT Wz ?_|refine ap ?_|exact jI|(clear hK K)))
  try(exact eG hB hR.ok hR.ok (tl:=[(4,.var 30 (cf p)),(5,.var 9 [rS nm]),(7,.var 42 (bW v)),(9,.var 114 (lQ Sh))]) (fun _=>rfl) (dq jC (dq jC (dq jC (dq jC dK)))) [.tmp 8])
theorem DY(hs:gi p)(VY:∀k,k<p.aa.nodes.length->0<=nth p.fn k/\nth p.fn k<p.aa.aw.length)(hM:MI p C m)(h2:¬(m.status=2\/m.status=3)):1<=m.calls.length/\(m.dJ C).calls.length=m.calls.length/\0<=gu C m/\(gu C m).toNat<p.aa.nodes.length/\∀x∈ii p (gu C m),0<=x.slot/\x.slot<m.ah.slots.length:=by
 obtain⟨h1,_,_,_⟩:=hM.ah fun e=>h2 (.inl e)
 have hl:(m.dJ C).calls.length=m.calls.length:=by show((List.range m.calls.length).map _).length=_;simp
 have hn:nth (m.dJ C).calls ((m.dJ C).calls.length-1)=m.spot C (m.calls.length-1):=by rw[hl];show nth ((List.range m.calls.length).map (m.spot C)) (m.calls.length-1)=_;rw[fM jF];simp
 have YO:=Qd hM (k:=m.calls.length-1) jB;have ht:gu C m=(m.spot C (m.calls.length-1)).node:=by unfold gu;rw[hn]
 have f0:=YO.f0;have f1:=YO.f1;refine⟨h1,hl,by rw[ht];exact YO.n0,by rw[ht];exact YO.n1,fun x hx=>?_⟩;rw[ht]at hx;obtain⟨a,b⟩:=N3 hs VY YO.n1 (j:=(m.spot C (m.calls.length-1)).fn.toNat) jB YO.in_.1 YO.in_.2 x hx;exact⟨a,by have:=YO.sl;show x.slot<((m.spot C (m.calls.length-1)).slots.length:Int);omega⟩
theorem NE(hs:gi p)(VY:∀k,k<p.aa.nodes.length->0<=nth p.fn k/\nth p.fn k<p.aa.aw.length)(hM:MI p C m)(h2:¬(m.status=2\/m.status=3))(hm:mg v=true)(h4:¬v.ty=4)(hf:iB nm v.ty (ii p (gu C m)) 0<0):cW prog 227 [.agg (cf p),mP N,rS nm,.agg (bW v)] e (rB false) e:=by
 have Wz:=xh hR hk;have U1:=hR.ok.low;have Z0:=vw v;rw[hm]at Z0;obtain⟨h1,hl,n0,n1,_⟩:=DY hR hk hs VY hM h2;have hvc:=Hx hs.ok VY (gu C m) n0 n1;have Zn:=Iu hs.ok VY n1;have XA:=IE nm v (ii p (gu C m)) jB;generalize iB nm v.ty (ii p (gu C m)) 0=z at*;generalize ii p (gu C m)=V at*;have hc8:m.calls.length<=1000:=by have:=hk.1;omega
 refine⟨?_,hR.ok,hR.ok,fun _ h=>h,?_⟩;rotate_left
 ·simp only[aZ,AV.all,gf hR.root,Bool.and_self,Bool.and_true,bW];rfl
 have q1:¬(m.dJ C).status=2:=fun e=>h2 (.inl e)
 have q2:¬(m.dJ C).status=3:=fun e=>h2 (.inr e)
 have e1:(((m.dJ C).calls.length:Int)-1).toNat=(m.dJ C).calls.length-1:=jB;have g1:(m.dJ C).calls.length-1<(m.dJ C).calls.length:=jB;have g2:0<=((m.dJ C).calls.length:Int)-1:=jB;have et:(nth (m.dJ C).calls ((m.dJ C).calls.length-1)).node=gu C m:=rfl;have hz:¬z >= 0:=jB;generalize gu C m=a at*;generalize m.dJ C=Sh at*;refine aO (L:=ids e) func227 ntmps227 ?_ (hL:=rfl);generalize hB:ids e=B;refine fc ?_
 (have W:=jA U1 (jA q1 (jA q2 (jA h4 (jA e1 (jA g1 (jA g2 (jA et (hz))))))));repeat' (first|refine aq fun K hK=>?_|refine ak ?_|(with_reducible refine gR 4 ?_);refine dE 4 (ba 0 12) mixed ?_|(with_reducible refine gR 6 ?_);refine dE 6 (ba 0 13) mixed ?_|(refine hK _ _ ?_;clear hK K)|(refine ao ?_ ?_<;>intro hc<;>try exact jz)|refine aV 4 ?_|refine aV 5 ?_|refine aV 7 ?_|refine cC 9 ?_|refine cq (Z0) ?_|refine cp (hvc) ?_|(refine Ku XA (FG U1 rfl rfl) rfl (J7 nm v) (Hc nm v) ?_;try refine S ?_)|(refine⟨rB false,?_⟩;refine S ?_)|refine cT Wz ?_|refine ap ?_|exact jI|(clear hK K)))
 exact eG hB hR.ok hR.ok (tl:=[(4,.var 30 (cf p)),(5,.var 9 [rS nm]),(7,.var 42 (bW v)),(9,.var 114 (lQ Sh))]) (fun _=>rfl) (dq jC (dq jC (dq jC (dq jC dK)))) [.tmp 8]
theorem IJ(hs:gi p)(VY:∀k,k<p.aa.nodes.length->0<=nth p.fn k/\nth p.fn k<p.aa.aw.length)(hM:MI p C m)(h2:¬(m.status=2\/m.status=3))(hm:mg v=true)(h4:¬v.ty=4)(hf:¬iB nm v.ty (ii p (gu C m)) 0<0) :
  cW prog 227 [.agg (cf p),mP N,rS nm,.agg (bW v)] e (rB true) (bg e (hn 1 N.ah.c) (.aG 42 3 ((m.ah.slots.set (nth (ii p (gu C m)) (iB nm v.ty (ii p (gu C m)) 0).toNat).slot.toNat v).map bW)))/\
   bL p C (rC m (nth (ii p (gu C m)) (iB nm v.ty (ii p (gu C m)) 0).toNat).slot.toNat v) N (bg e (hn 1 N.ah.c) (.aG 42 3 ((m.ah.slots.set (nth (ii p (gu C m)) (iB nm v.ty (ii p (gu C m)) 0).toNat).slot.toNat v).map bW))):=by
 have Wz:=xh hR hk;have U1:=hR.ok.low;have Z0:=vw v;rw[hm]at Z0;obtain⟨h1,hl,n0,n1,V5⟩:=DY hR hk hs VY hM h2;have hvc:=Hx hs.ok VY (gu C m) n0 n1;have Zn:=Iu hs.ok VY n1;have XA:=IE nm v (ii p (gu C m)) jB;obtain⟨k0,ek,Vh,_,_⟩:=zL nm v.ty (ii p (gu C m)) 0 (by show 0<=iB nm v.ty (ii p (gu C m)) 0;omega);have ek:iB nm v.ty (ii p (gu C m)) 0=0+(k0:Int):=ek;rw[Int.zero_add]at ek;obtain⟨YJ,hs2⟩:=V5 _ (fa Vh);rw[ek,Int.toNat_natCast];rw[ek]at XA;clear hf ek V5;have Vk:=hk;obtain⟨_,_,s3,_⟩:=Vk;have WQ:=s3 (m.calls.length-1) jB;have WQ:m.ah.slots.length<=1000:=by have:(nth m.calls (m.calls.length-1)).slots.length=m.ah.slots.length:=rfl;omega
 obtain⟨kk,ekk⟩:∃kk:Nat,(nth (ii p (gu C m)) k0).slot=(kk:Int):=⟨(nth (ii p (gu C m)) k0).slot.toNat,jB⟩;rw[ekk,Int.toNat_natCast];obtain⟨Xp,VO⟩:=NX hR h2 h1 kk jB WQ v;refine⟨?_,VO⟩;have k2:=VO.ok;have hkp:=Xp.aY;have u':∀X Y,A3 ([hn 1 N.ah.c],X,Y) e (bg e (hn 1 N.ah.c) (.aG 42 3 ((m.ah.slots.set kk v).map bW))):=fun X Y j hj _=>.inl (by rw[bS,if_neg];rintro rfl;simp at hj)
 generalize bg e (hn 1 N.ah.c) (.aG 42 3 ((m.ah.slots.set kk v).map bW))=E at*;clear VO;generalize ii p (gu C m)=V at*;have hc8:m.calls.length<=1000:=by have:=hk.1;omega
 refine⟨?_,hR.ok,k2,hkp,?_⟩;rotate_left
 ·simp only[aZ,AV.all,gf hR.root,Bool.and_self,Bool.and_true,bW];rfl
 have q1:¬(m.dJ C).status=2:=fun e=>h2 (.inl e)
 have q2:¬(m.dJ C).status=3:=fun e=>h2 (.inr e)
 have e1:(((m.dJ C).calls.length:Int)-1).toNat=(m.dJ C).calls.length-1:=jB;have g1:(m.dJ C).calls.length-1<(m.dJ C).calls.length:=jB;have g2:0<=((m.dJ C).calls.length:Int)-1:=jB;have et:(nth (m.dJ C).calls ((m.dJ C).calls.length-1)).node=gu C m:=rfl;have hz:(k0:Int) >= 0:=jB;generalize gu C m=a at*;generalize m.dJ C=Sh at*;refine aO (L:=ids e) func227 ntmps227 ?_ (hL:=rfl);generalize hB:ids e=B;refine fc ?_
 (have W:=jA U1 (jA q1 (jA q2 (jA h4 (jA e1 (jA g1 (jA g2 (jA et (jA hz (jA Vh (ekk))))))))));repeat' (first|refine aq fun K hK=>?_|refine ak ?_|(with_reducible refine gR 4 ?_);refine dE 4 (ba 0 12) mixed ?_|(with_reducible refine gR 6 ?_);refine qq 6 [hn 1 N.ah.c] [] [56] [] (ba 0 13) mixed ?_|(refine hK _ _ ?_;clear hK K)|(refine ao ?_ ?_<;>intro hc<;>try exact jz)|refine aV 4 ?_|refine aV 5 ?_|refine aV 7 ?_|refine cC 9 ?_|refine cq (Z0) ?_|refine cp (hvc) ?_|(refine Ku XA (FG U1 rfl rfl) rfl (J7 nm v) (Hc nm v) ?_;try refine S ?_)|(refine oc Xp (u' _ _) ?_)|refine cT Wz ?_|refine ap ?_|exact jI|(clear hK K)))
 exact eG hB hR.ok k2 (tl:=[(4,.var 30 (cf p)),(5,.var 9 [rS nm]),(7,.var 42 (bW v)),(9,.var 114 (lQ Sh))]) (fun _=>rfl) (dq jC (dq jC (dq jC (dq jC dK)))) [.tmp 8]
end
end Go.Proofs.YtijdhbokcdpklaaGreatDoor