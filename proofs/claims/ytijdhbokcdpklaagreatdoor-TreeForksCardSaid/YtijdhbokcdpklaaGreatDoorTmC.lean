/- Lemmas. No conditions. -/
import Derived.Test.YtijdhbokcdpklaaGreatDoorTrR
import Derived.Test.YtijdhbokcdpklaaGreatDoorTmX
set_option linter.all false
set_option maxHeartbeats 4000000
set_option maxRecDepth 10000
namespace Go.Gd
open Go
abbrev VS:=List bE×List bE
def rL(x:bE)(s:VS):VS:=(s.1++[x],s.2.drop 1)
def oW(m:Nat)(s:VS):VS:=(s.1.take m,s.1.drop m++s.2)
def kM(w:Int->VS->Bool×VS):UG->VS->Bool×VS
 |[],s=>(false,s)
 |b::l,s=>if(w b s).1=true then(true,(w b s).2)else kM w l (w b s).2
def mV(w:Int->VS->Bool×VS)(p:af)(node:Int):UG->VS->Bool×VS
 |[],s=>(false,s)
 |x::l,s=>
  if x=node then(true,s)
  else if(ao p x).kind=10 then mV w p node l (rL (qz p x) s)
  else if(ao p x).kind=15\/(ao p x).kind=16 then
   (if(kM w ((ao p x).l.drop 1) s).1=true then(true,(kM w ((ao p x).l.drop 1) s).2)else mV w p node l (kM w ((ao p x).l.drop 1) s).2)
  else mV w p node l s
def jg(p:af)(node:Int):Nat->Int->VS->Bool×VS
 |0,_,s=>(false,s)
 |n+1,b,s=>if(mV (jg p node n) p node (ao p b).l s).1=true then mV (jg p node n) p node (ao p b).l s else(false,oW s.1.length (mV (jg p node n) p node (ao p b).l s).2)
def xR(s:VS)(o:Option (List bE))(r:Bool×VS):Prop:=match o with
 |some R=>r.1=true/\r.2.1=R
 |none=>r.1=false/\r.2.1=s.1
theorem IS{w:Int->VS->Bool×VS}{v:Int->List bE->Option (List bE)}(h:∀b s,xR s (v b s.1) (w b s)):∀(l:UG) (s:VS),xR s (oZ v s.1 l) (kM w l s)
 |[],s=>⟨rfl,rfl⟩
 |b::l,s=>by
  have hb:=h b s;unfold oZ kM;cases e:v b s.1 with
  |some R=> rw[e]at hb;rw[if_pos hb.1];exact⟨rfl,hb.2⟩
  |none=>
   rw[e]at hb;rw[if_neg (by rw[hb.1];decide),Option.none_or];have:=IS h l (w b s).2;rw[hb.2]at this;unfold xR at this ⊢;rw[<-hb.2];rw[hb.2];cases e2:oZ v s.1 l with
   |some R=>rw[e2]at this;exact this
   |none=>rw[e2]at this;exact⟨this.1,this.2.trans hb.2⟩
def Qw(s:VS)(o:Option (List bE))(r:Bool×VS):Prop:=match o with
 |some R=>r.1=true/\r.2.1=R
 |none=>r.1=false/\r.2.1.take s.1.length=s.1
theorem zS{p:af}{node:Int}{w:Int->VS->Bool×VS}{v:Int->List bE->Option (List bE)}(h:∀b s,xR s (v b s.1) (w b s)):∀(l:UG) (s:VS),Qw s (pV v p node l s.1) (mV w p node l s)
 |[],s=>⟨rfl,List.take_length⟩
 |x::l,s=>by
  unfold pV mV;by_cases hx:x=node
  ·rw[if_pos hx,if_pos hx];exact⟨rfl,rfl⟩
  rw[if_neg hx,if_neg hx];by_cases k10:(ao p x).kind=10
  ·rw[if_pos k10,jN,Option.none_or];have:=zS (p:=p) (node:=node) h l (rL (qz p x) s);have e:(rL (qz p x) s).1=lV p x s.1:=by unfold lV;rw[if_pos k10];rfl
   rw[e]at this;cases e2:pV v p node l (lV p x s.1)with
   |some R=>rw[e2]at this;exact this
   |none=>
    rw[e2]at this;refine⟨this.1,?_⟩;have h2:=this.2;rw[e]at h2;have h3:(lV p x s.1).take s.1.length=s.1:=by unfold lV;rw[if_pos k10,List.take_left]
    have hl:s.1.length<=(lV p x s.1).length:=by unfold lV;rw[if_pos k10];simp
    have h4:(mV w p node l (rL (qz p x) s)).2.1.take s.1.length=((mV w p node l (rL (qz p x) s)).2.1.take (lV p x s.1).length).take s.1.length:=by rw[List.take_take,Nat.min_eq_left hl]
    rw[h4,h2,h3]
  rw[if_neg k10];have hl:lV p x s.1=s.1:=by unfold lV;rw[if_neg k10]
  rw[hl];by_cases kb:(ao p x).kind=15\/(ao p x).kind=16
  ·rw[if_pos kb,if_pos kb];have hk:=IS h ((ao p x).l.drop 1) s;cases e:oZ v s.1 ((ao p x).l.drop 1)with
   |some R=>rw[e]at hk;rw[if_pos hk.1];exact⟨rfl,hk.2⟩
   |none=>
    rw[e]at hk;rw[if_neg (by rw[hk.1];decide),Option.none_or];have:=zS (p:=p) (node:=node) h l (kM w ((ao p x).l.drop 1) s).2;rw[hk.2]at this;cases e2:pV v p node l s.1 with
    |some R=>rw[e2]at this;exact this
    |none=>rw[e2]at this;refine⟨this.1,?_⟩;have h2:=this.2;rw[hk.2]at h2;exact h2
  ·rw[if_neg kb,if_neg kb,Option.none_or];exact zS (p:=p) (node:=node) h l s
theorem B1{p:af}{node:Int}:∀(n:Nat) (b:Int) (s:VS),xR s (lB p node n b s.1) (jg p node n b s)
 |0,b,s=>⟨rfl,rfl⟩
 |n+1,b,s=>by
  have:=zS (p:=p) (node:=node) (B1 (p:=p) (node:=node) n) (ao p b).l s;unfold lB jg;cases e:pV (lB p node n) p node (ao p b).l s.1 with
  |some R=>rw[e]at this;rw[if_pos this.1];exact this
  |none=>rw[e]at this;rw[if_neg (by rw[this.1];decide)];exact⟨rfl,this.2⟩
def kY(s:VS):Nat:=s.1.length+s.2.length
def JK(x:bE)(s:VS){T:Nat}(h:kY s<=T)(h1:s.1.length+1<=T):kY (rL x s)<=T:=by unfold kY rL at*;simp only[List.length_append,List.length_cons,List.length_nil,List.length_drop];omega
def TW(m:Nat)(s:VS):kY (oW m s)=kY s:=by unfold kY oW;simp only[List.length_append,List.length_take,List.length_drop];omega
def IV{p:af}{node:Int}{n:Nat}{b:Int}{s:VS}(h:(jg p node n b s).1=false):(jg p node n b s).2.1=s.1:=by
 have:=B1 (p:=p) (node:=node) n b s;cases e:lB p node n b s.1 with
 |some R=>rw[e]at this;rw[this.1]at h;cases h
 |none=>rw[e]at this;exact this.2
def p8(w:Int->VS->Bool×VS):UG->VS->Int->Int
 |[],_,_=>-1
 |b::l,s,i=>if(w b s).1=true then i else p8 w l (w b s).2 (i+1)
theorem FC(w:Int->VS->Bool×VS):∀(l:UG) (s:VS) (i:Int),0<=i->(kM w l s).1=decide (0<=p8 w l s i)
 |[],s,i,_=>rfl
 |b::l,s,i,h=>by
  unfold kM p8;split
  ·exact(decide_eq_true h).symm
  ·exact FC w l _ (i+1) jB
def GQ(w:Int->VS->Bool×VS)(b:Int)(l:UG)(s:VS):kM w (b::l) s=if(w b s).1=true then(true,(w b s).2)else kM w l (w b s).2:=by conv=>lhs;unfold kM
def L0(w:Int->VS->Bool×VS)(b:Int)(l:UG)(s:VS)(i:Int):p8 w (b::l) s i=if(w b s).1=true then i else p8 w l (w b s).2 (i+1):=by conv=>lhs;unfold p8
@[go_sem] def j2Y(f:FuncId)(cs:UE):(AV.dW f cs).cells=[.dW f cs]:=(rfl)
@[go_sem] def j8I(f:FuncId)(cs:UE):(AV.dW f cs).one=true:=by simp[AV.one]
variable{nm:UI}
def P4{ty:Int}{l:List bE}{k:Nat}(hk:k<l.length)(Vm:(nth l k).name=nm/\(nth l k).ty=ty)(Ur:∀j,j<k->¬((nth l j).name=nm/\(nth l j).ty=ty)):iz nm ty l 0=(k:Int):=by
 by_cases h:0<=iz nm ty l 0
 ·obtain⟨j,e,hj,g,f⟩:=yW nm ty l 0 h;have e:iz nm ty l 0=0+(j:Int):=e;rcases Nat.lt_trichotomy j k with c|c|c
  ·exact(Ur j c g).elim
  ·omega
  ·exact(f k c Vm).elim
 ·exact(ET nm ty l 0 (by show iz nm ty l 0<0;omega) k hk Vm).elim
def Ly{ty:Int}{l:List bE}(Ur:∀j,j<l.length->¬((nth l j).name=nm/\(nth l j).ty=ty)):iz nm ty l 0=-1:=by
 rcases Is nm ty l 0 (Int.le_refl 0)with e|⟨a,b⟩
 ·exact e
 ·obtain⟨j,e,hj,g,f⟩:=yW nm ty l 0 a;exact(Ur j hj g).elim
def Hj{P:UP}{f:FuncId}{args:UE}{s L:UD}{B:UH}{K:UB}{r0:AV}(hc:ab P f args s fun r l=>r=r0/\l=s)(hs:∀i r,aA s i=some r->aA L i=some r)(ha:aY (fun i=>(ids s).contains i) args=true)(Uo:∀i r,aA s i=some r->aY (fun i=>(ids s).contains i) r.cells=true)(hn:(ids s).Nodup)(k:K r0 ⟨B,L⟩)(h0:aS P f=true:=by exact dD):fg P (.raw (.func (.func f) #[] #[])) args ⟨B,L⟩ K:=by
 refine nZ h0 fun w vs h1 h3=>?_
 refine(y0 (H:=⟨B,L⟩) (K:=fun r H'=>r=r0/\∃l',H'=⟨B,l'⟩/\∀i,aA l' i=aA L i) hc hs ha Uo (fun r l' ⟨e1,e2⟩=>⟨fun i s' XZ=>?_,by rw[e2];exact hn,e1,_,rfl,fun i=>?_⟩) h1 h3).mono ?_
 ·subst e2;exact .inl (tn XZ)
 ·subst e2;rw[uf _ _ _ (fun _ _ _=>trivial) hn];cases e:aA l' i with
  |none=>rfl
  |some x=>rw[hs i x e];rfl
 ·rintro e W ⟨v,r,H',w',rfl,rfl,⟨rfl,l',rfl,VY⟩,g1,g2,g3⟩;exact⟨v,_,⟨B,L⟩,w',rfl,rfl,k,BM VY g1,g2,{ g3 with base:=g3.base }⟩
theorem EQ{p:af}{node:Int}(hl:∀b,(ao p b).l.length<=300):∀(n:Nat) (b:Int) (vars r:List bE),lB p node n b vars=some r->r.length<=vars.length+300*n
 |0,b,vars,r,h=>by cases h
 |n+1,b,vars,r,h=>by
  have ih:=EQ (node:=node) hl n;have aF:∀(l:UG) (vs r:List bE),oZ (lB p node n) vs l=some r->r.length<=vs.length+300*n:=fun l=>by
   induction l with
   |nil=>intro vs r h;cases h
   |cons b l ihl=>
    intro vs r h;unfold oZ at h;cases e:lB p node n b vs with
    |none=>rw[e]at h;exact ihl vs r h
    |some R=>rw[e]at h;cases h;exact ih b vs _ e
  have sc:∀(l:UG) (vs r:List bE),pV (lB p node n) p node l vs=some r->r.length<=vs.length+l.length+300*n:=fun l=>by
   induction l with
   |nil=>intro vs r h;cases h
   |cons x l ihl=>
    intro vs r h;have Z8:(lV p x vs).length<=vs.length+1:=by unfold lV;split<;>simp
    unfold pV at h;simp only[List.length_cons];split at h
    ·cases h;omega
    ·cases e:(if(ao p x).kind=15\/(ao p x).kind=16 then oZ (lB p node n) (lV p x vs) ((ao p x).l.drop 1)else none)with
     |none=>rw[e]at h;have:=ihl _ r h;omega
     |some R=>
      rw[e]at h;cases h;split at e
      ·have:=aF _ _ _ e;omega
      ·cases e
  have:=sc _ _ _ h;have:=hl b;omega
end Go.Gd
namespace Go.Proofs.YtijdhbokcdpklaaGreatDoor
open Go Go.Gd Tryz
theorem BB{p:af}{node:Int}{n:Nat}{T B:Nat}(hw:∀b s,0<=b->b.toNat<B->bX p.aa.nodes b=18->kY s<=1000000->s.1.length<=T->kY (jg p node n b s).2<=1000000):∀(l:UG) (s:VS),(∀b∈l,0<=b/\b.toNat<B/\bX p.aa.nodes b=18)->kY s<=1000000->s.1.length<=T->kY (kM (jg p node n) l s).2<=1000000/\((kM (jg p node n) l s).1=false->(kM (jg p node n) l s).2.1=s.1)
 |[],s,_,h,_=>⟨h,fun _=>rfl⟩
 |b::l,s,hl,h,h1=>by
  obtain⟨b0,b1,b2⟩:=hl b jE;have hb:=hw b s b0 b1 b2 h h1;rw[GQ];by_cases e:(jg p node n b s).1=true
  ·rw[if_pos e];exact⟨hb,fun h=>by cases h⟩
  ·rw[if_neg e];have e1:=IV (Bool.not_eq_true _ ▸ e);have:=BB hw l (jg p node n b s).2 (fun b hb=>hl b (by simp[hb])) hb (by rw[e1];exact h1);exact⟨this.1,fun h=>(this.2 h).trans e1⟩
theorem AQ{p:af}(h:pJ p)(node:Int):∀(n:Nat) (b:Int) (s:VS),0<=b->b.toNat<p.aa.nodes.length->bX p.aa.nodes b=18->kY s<=1000000->s.1.length+300*b.toNat<=900000->kY (jg p node n b s).2<=1000000
 |0,b,s,_,_,_,ht,_=>ht
 |n+1,b,s,h0,hl,hk,ht,h1=>by
  have sh:=h.aa.shape b.toNat hl;have Z7:=zD h b;have sc:∀(l:UG) (t:VS),(∀x∈l,x∈(ao p b).l)->kY t<=1000000->t.1.length+l.length<=s.1.length+300->kY (mV (jg p node n) p node l t).2<=1000000:=fun l=>by
   induction l with
   |nil=>intro t _ g _;exact g
   |cons x l ih=>
    intro t hx g g1;have hxb:=sh.2.1 x (hx x jE);have YQ:x.toNat<p.aa.nodes.length:=jB;have shx:=h.aa.shape x.toNat YQ;simp only[List.length_cons]at g1;have Va:∀y∈l,y∈(ao p b).l:=fun y hy=>hx y (by simp[hy])
    unfold mV;split
    ·exact g
    split
    ·exact ih _ Va (JK _ _ g jB) (by show(t.1++[_]).length+_<=_;simp;omega)
    split
    ·rename_i kb;have Vf:∀y∈(ao p x).l.drop 1,0<=y/\y.toNat<x.toNat/\bX p.aa.nodes y=18:=fun y hy=>by
      have Y7:y∈(nth p.aa.nodes x.toNat).l:=List.mem_of_mem_drop hy;have Z9:=shx.2.1 y Y7;refine⟨Z9.1,Z9.2,?_⟩;have hy:y∈(nth p.aa.nodes x.toNat).l.drop 1:=hy;rcases kb with kb|kb
      ·obtain⟨a,c,_,hb,hl|⟨d,hl,hd⟩⟩:=shx.1.lE kb
       ·rw[hl]at hy;simp at hy;subst hy;exact hb
       ·rw[hl]at hy;simp at hy;rcases hy with rfl|rfl
        ·exact hb
        ·exact hd
      ·obtain⟨a,c,hl,_,hb⟩:=shx.1.eG kb;rw[hl]at hy;simp at hy;subst hy;exact hb
     have Zu:=BB (p:=p) (node:=node) (n:=n) (T:=s.1.length+300) (B:=x.toNat) (fun c u c0 c1 c2 c3 c4=>AQ h node n c u c0 jB c2 c3 jB) ((ao p x).l.drop 1) t Vf g jB;split
     ·exact Zu.1
     ·rename_i e;have e1:=Zu.2 (Bool.not_eq_true _ ▸ e);exact ih _ Va Zu.1 (by rw[e1];omega)
    ·exact ih _ Va g jB
  have:=sc (ao p b).l s (fun x hx=>hx) ht jB;unfold jg;split
  ·exact this
  ·rw[TW];exact this
abbrev sd:UE:=[.pt 3 0 0 0,.pt 1 0 0 0,.pt 2 0 0 0,.pt 7 0 0 0]
def fE(p:af)(node:Int)(s:VS):UD:=[(1,.var 30 (cn p)),(2,.var 3 [rI node]),(3,.var 101 [.rs 4 (s.1.length+s.2.length) 3 s.1.length]),(4,.aG 144 3 ((s.1++s.2).map lc)),(7,.var 95 [.dW 233 sd])]
attribute [go_sem] fE
def Ng{p:af}(node:Int)(w:Int->VS->Bool×VS)(L:UG)(s0:VS)(I:VS->Prop)(hL:L.length<=300)(hI0:I s0)
  (hw:∀b∈L,∀s,I s->ab prog 233 (rI b::sd) (fE p node s) (fun r l'=>r=rB (w b s).1/\l'=fE p node (w b s).2)) (hI:∀b∈L,∀s,I s->(w b s).1=false->I (w b s).2) :
  ab prog 235 [aP eI 1 L,.dW 233 sd] (fE p node s0) (fun r l'=>r=rI (p8 w L s0 0)/\l'=fE p node (kM w L s0).2):=by
 suffices key:∀(sR:VS) (iR:Int),sR=(kM w L s0).2->iR=p8 w L s0 0->ab prog 235 [aP eI 1 L,.dW 233 sd] (fE p node s0) (fun r l'=>r=rI iR/\l'=fE p node sR) from key _ _ rfl rfl
 intro sR iR YM hiR;refine aM func235 ntmps235 ?_;refine S ?_
 (repeat' (first|refine av fun K hK=>?_|refine au ?_|(refine hK _ _ ?_;clear hK K)|(refine ar ?_ ?_<;>intro hc<;>try exact jz)|refine aq ?_|exact jI|(clear hK K)))
 have Ux:=hK;clear hK;refine eN (S:=Nat×VS) [(4,2),(8,11)] (fun t=>t.1<=L.length/\I t.2/\p8 w (L.drop t.1) t.2 t.1=iR/\(kM w (L.drop t.1) t.2).2=sR) (fun t=>[(8,rI t.1)]) (fun t=>⟨[1,2,3,4,7],fE p node t.2⟩) (fun t=>L.length-t.1) (0,s0) ⟨Nat.zero_le _,hI0,hiR.symm,YM.symm⟩ (eR jD cH) ?_;rintro⟨k,s⟩ ⟨hk,hIs,h1,h2⟩ Kr Ut;simp only at hk hIs h1 h2 ⊢;by_cases O':k<L.length
 ·have Yl:=hw _ (ff O') s hIs;have hIk:=hI _ (ff O') s hIs;rw[kV O',L0]at h1;rw[kV O',GQ]at h2;generalize ZB:nth L k=x at*;generalize w x s=r at*;cases hr:r.1 with
  |true=>
   rw[if_pos hr]at h1 h2;simp only at h1 h2;subst h1 h2;rw[hr]at Yl;refine S ?_
   (have W:=ZB;repeat' (first|refine av fun K hK=>?_|refine au ?_|(refine hK _ _ ?_;clear hK K)|(refine ar ?_ ?_<;>intro hc<;>try exact jz)|(refine cl Yl ?_)|refine aq ?_|exact jI|(clear hK K)))
   (refine bW [.tmp 4] ?_ ?_<;>(try simp only[go_sem]))
  |false=>
   rw[if_neg (by rw[hr];decide)]at h1 h2;rw[hr]at Yl;refine S ?_
   (have W:=ZB;repeat' (first|refine av fun K hK=>?_|refine au ?_|(refine hK _ _ ?_;clear hK K)|(refine ar ?_ ?_<;>intro hc<;>try exact jz)|(refine cl Yl ?_)|refine aq ?_|exact jI|(clear hK K)))
   refine Ut _ _ (eQ (k+1,r.2) ⟨by show k+1<=L.length;omega,hIk hr,h1,h2⟩ (by show L.length-(k+1)<L.length-k;omega) jD cH)
 ·have YU:k=L.length:=jB;subst YU;rw[List.drop_length]at h1 h2;have h1:iR=-1:=h1.symm;have h2:sR=s:=h2.symm;subst h1 h2;refine S ?_
  (repeat' (first|refine av fun K hK=>?_|refine au ?_|(refine hK _ _ ?_;clear hK K)|(refine ar ?_ ?_<;>intro hc<;>try exact jz)|refine Ux _ _ ?_|refine aq ?_|exact jI|(clear hK K)))
  (refine bW [.tmp 4] ?_ ?_<;>(try simp only[go_sem]))
def TT{p:af}(node:Int)(w:Int->VS->Bool×VS)(L:UG)(s0:VS)(I:VS->Prop)(hL:L.length<=300)(hI0:I s0)
  (hw:∀b∈L,∀s,I s->ab prog 233 (rI b::sd) (fE p node s) (fun r l'=>r=rB (w b s).1/\l'=fE p node (w b s).2)) (hI:∀b∈L,∀s,I s->(w b s).1=false->I (w b s).2) :
  ab prog 234 [aP eI 1 L,.dW 233 sd] (fE p node s0) (fun r l'=>r=rB (kM w L s0).1/\l'=fE p node (kM w L s0).2):=by
 have hi:=Ng node w L s0 I hL hI0 hw hI;rw[FC w L s0 0 jB];generalize p8 w L s0 0=i at*;generalize (kM w L s0).2=sR at*;refine aM func234 ntmps234 ?_;refine S ?_
 (repeat' (first|refine av fun K hK=>?_|refine au ?_|(refine hK _ _ ?_;clear hK K)|(refine ar ?_ ?_<;>intro hc<;>try exact jz)|refine cm (hi) ?_|refine aq ?_|exact jI|(clear hK K)))
 (refine bW [.tmp 4] ?_ ?_<;>(try simp only[go_sem]))
theorem Ih{p:af}(h:pJ p)(node:Int):∀(n:Nat) (b:Int) (s:VS),0<=b->b.toNat<p.aa.nodes.length->b.toNat<n->bX p.aa.nodes b=18->kY s<=1000000->s.1.length+300*b.toNat<=900000->
  ab prog 233 (rI b::sd) (fE p node s) (fun r l'=>r=rB (jg p node n b s).1/\l'=fE p node (jg p node n b s).2)
 |0,b,s,h0,hl,hn,hk,ht,h1=>by omega
 |n+1,b,s,h0,hl,hn,hk,ht,h1=>by
  have ih:=Ih h node n;have sh:=h.aa.shape b.toNat hl;have Y9:=sh.1.block hk;have V8:=sh.2.1;have Xi:=h.types;have VH:=h.slots;have Z7:=zD h b;have haJ:=h.aa.many;have key:∀(rr:Bool×VS) (sR:VS) (bR:Bool),mV (jg p node n) p node (ao p b).l s=rr->bR=rr.1->sR=(if rr.1=true then rr.2 else oW s.1.length rr.2)->ab prog 233 (rI b::sd) (fE p node s) (fun r l'=>r=rB bR/\l'=fE p node sR):=by
   intro rr sR bR hrr Zg YM;have hL0:(ao p b).l=(nth p.aa.nodes b.toNat).l:=rfl;rw[hL0]at hrr Z7;generalize hL:(nth p.aa.nodes b.toNat).l=L at*;unfold kY at ht;refine aM func233 ntmps233 ?_;refine S ?_
   (have W:=hL;repeat' (first|refine av fun K hK=>?_|refine au ?_|(refine hK _ _ ?_;clear hK K)|(refine ar ?_ ?_<;>intro hc<;>try exact jz)|refine aq ?_|exact jI|(clear hK K)))
   have Ux:=hK;clear hK;refine eN (S:=Nat×VS) [(6,1),(9,2),(21,54)] (fun t=>t.1<=L.length/\kY t.2<=1000000/\t.2.1.length<=s.1.length+t.1/\s.1.length<=t.2.1.length/\mV (jg p node n) p node (L.drop t.1) t.2=rr) (fun t=>[(21,rI t.1),(6,rB false)]) (fun t=>⟨[1,2,3,4,7],fE p node t.2⟩) (fun t=>L.length-t.1) (0,s) ⟨Nat.zero_le _,ht,Nat.le_refl _,Nat.le_refl _,hrr⟩ (eR jD cH) ?_;rintro⟨k,t⟩ ⟨U8,htt,htl,htg,Wq⟩ Kr Ut;simp only at U8 htt htl htg Wq ⊢;by_cases O':k<L.length
   rotate_left
   ·have YU:k=L.length:=jB;subst YU;rw[List.drop_length]at Wq;have Wq:rr=(false,t):=Wq.symm;subst Wq;have Zg:bR=false:=Zg;have YM:sR=oW s.1.length t:=YM;have Uo:(oW s.1.length t).1.length=s.1.length:=by unfold oW;simp;omega
    have V6:(oW s.1.length t).2.length+s.1.length=t.1.length+t.2.length:=by unfold oW;simp;omega
    have Wm:(oW s.1.length t).1++(oW s.1.length t).2=t.1++t.2:=by unfold oW;simp[<-List.append_assoc]
    refine S ?_
    (repeat' (first|refine av fun K hK=>?_|refine au ?_|(refine hK _ _ ?_;clear hK K)|(refine ar ?_ ?_<;>intro hc<;>try exact jz)|refine Ux _ _ ?_|refine aq ?_|exact jI|(clear hK K)))
    subst Zg YM
    (refine bW [.tmp 6] ?_ ?_<;>(try simp only[go_sem]))
    show[_,_,(3,_),(4,_),_]=[_,_,(3,_),(4,_),_];rw[<-List.map_append,<-List.map_append,Wm,Uo,show s.1.length+(oW s.1.length t).2.length=t.1.length+t.2.length from jB]
   have hx:=Y9 _ (ff O');have Z4:=V8 _ (ff O');rw[kV O']at Wq;unfold mV at Wq;generalize ZB:nth L k=x at*;have YQ:x.toNat<p.aa.nodes.length:=jB;have shx:=h.aa.shape x.toNat YQ;have Y5:ao p x=nth p.aa.nodes x.toNat:=rfl;rw[Y5]at Wq;by_cases Z':x=node
   ·rw[if_pos Z']at Wq;subst Wq;have Zg:bR=true:=Zg;have YM:sR=t:=YM;subst Zg YM;refine S ?_
    (have W:=jA ZB Z';repeat' (first|refine av fun K hK=>?_|refine au ?_|(refine hK _ _ ?_;clear hK K)|(refine ar ?_ ?_<;>intro hc<;>try exact jz)|refine al 8 ?_|refine aq ?_|exact jI|(clear hK K)))
    (refine ba [.tmp 6] ?_;try simp only[go_sem])
   rw[if_neg Z']at Wq;by_cases k10:(nth p.aa.nodes x.toNat).kind=10
   ·rw[if_pos k10]at Wq;obtain⟨a,ha,_⟩:=shx.1.right (.inl k10);have Yd:=shx.2.1 a (by rw[ha];simp);have ha0:nth (nth p.aa.nodes x.toNat).l 0=a:=by rw[ha];rfl
    have ha1:(nth p.aa.nodes x.toNat).l.length=1:=by rw[ha];rfl
    unfold kY at htt;refine S ?_
    (have W:=jA ZB (jA Z' (jA k10 (jA ha0 (ha1))));repeat' (first|refine av fun K hK=>?_|refine au ?_|(with_reducible refine gR 9 ?_);refine dE 9 (bf 0 20) mixed ?_|(refine hK _ _ ?_;clear hK K)|(refine ar ?_ ?_<;>intro hc<;>try exact jz)|refine al 8 ?_|refine rp (enc:=lc) t.1 t.2 [⟨(nth p.aa.nodes x.toNat).name,nth p.types a.toNat,nth p.slots x.toNat⟩] ?_|refine aq ?_|exact jI|(clear hK K)))
    have hvo:(⟨(nth p.aa.nodes x.toNat).name,nth p.types a.toNat,nth p.slots x.toNat⟩:bE)=qz p x:=by unfold qz;rw[Y5,ha0]
    rw[hvo];have Yn:=JK (qz p x) t (T:=1000000) htt jB;refine Ut _ _ (py [8] (k+1,rL (qz p x) t) ⟨by show k+1<=L.length;omega,Yn,by show(t.1++[_]).length<=s.1.length+(k+1);simp;omega,by show s.1.length<=(t.1++[_]).length;simp;omega,Wq⟩ (by show L.length-(k+1)<L.length-k;omega) rfl Sd ?_ jL);unfold fE rL;simp only[List.length_append,List.length_cons,List.length_nil,List.length_drop,List.map_append,List.map_cons,List.map_nil];rfl
   rw[if_neg k10]at Wq;by_cases kb:(nth p.aa.nodes x.toNat).kind=15\/(nth p.aa.nodes x.toNat).kind=16
   ·rw[if_pos kb]at Wq;have Vf:∀y∈(nth p.aa.nodes x.toNat).l.drop 1,0<=y/\y.toNat<x.toNat/\bX p.aa.nodes y=18:=fun y hy=>by
     have Y7:y∈(nth p.aa.nodes x.toNat).l:=List.mem_of_mem_drop hy;have Z9:=shx.2.1 y Y7;refine⟨Z9.1,Z9.2,?_⟩;rcases kb with kb|kb
     ·obtain⟨a,c,_,hb,hl|⟨d,hl,hd⟩⟩:=shx.1.lE kb
      ·rw[hl]at hy;simp at hy;subst hy;exact hb
      ·rw[hl]at hy;simp at hy;rcases hy with rfl|rfl
       ·exact hb
       ·exact hd
     ·obtain⟨a,c,hl,_,hb⟩:=shx.1.eG kb;rw[hl]at hy;simp at hy;subst hy;exact hb
    have V0:1<=(nth p.aa.nodes x.toNat).l.length:=by
     rcases kb with kb|kb
     ·obtain⟨a,c,_,hb,hl|⟨d,hl,hd⟩⟩:=shx.1.lE kb<;>(rw[hl];simp)
     ·obtain⟨a,c,hl,_,hb⟩:=shx.1.eG kb;rw[hl];simp
    have hdt:List.take ((nth p.aa.nodes x.toNat).l.length-1) (List.drop 1 (nth p.aa.nodes x.toNat).l)=List.drop 1 (nth p.aa.nodes x.toNat).l:=List.take_of_length_le jE;have u':=zD h x;rw[Y5]at u';have Zh:=TT (p:=p) node (jg p node n) ((nth p.aa.nodes x.toNat).l.drop 1) t (fun u=>kY u<=1000000/\u.1.length<=s.1.length+300) jF ⟨htt,jB⟩
     (fun y hy u hu=>ih y u (Vf y hy).1 (by have:=(Vf y hy).2.1;omega) (by have:=(Vf y hy).2.1;omega) (Vf y hy).2.2 hu.1 (by have:=(Vf y hy).2.1;have:=hu.2;omega))
     (fun y hy u hu hf=>⟨AQ h node n y u (Vf y hy).1 (by have:=(Vf y hy).2.1;omega) (Vf y hy).2.2 hu.1 (by have:=(Vf y hy).2.1;have:=hu.2;omega),by rw[IV hf];exact hu.2⟩)
    have Zu:=BB (p:=p) (node:=node) (n:=n) (T:=s.1.length+300) (B:=x.toNat) (fun c u c0 c1 c2 c3 c4=>AQ h node n c u c0 jB c2 c3 jB) ((nth p.aa.nodes x.toNat).l.drop 1) t Vf htt jB;generalize kM (jg p node n) ((nth p.aa.nodes x.toNat).l.drop 1) t=KR at*;cases hKR:KR.1 with
    |true=>
     rw[if_pos hKR]at Wq;subst Wq;have Zg:bR=true:=Zg;have YM:sR=KR.2:=YM;subst Zg YM;rw[hKR]at Zh;refine S ?_
     (have W:=jA ZB (jA Z' (jA k10 (hdt)));repeat' (first|refine av fun K hK=>?_|refine au ?_|(with_reducible refine gR 10 ?_);refine dC 10 ([3,4],[],[72]) [] (bf 0 16) mixed ?_|(refine hK _ _ ?_;clear hK K)|(refine ar ?_ ?_<;>intro hc<;>try exact jz)|refine al 8 ?_|(refine Fi Zh ?_)|(refine bY ?_ ?_<;>intro hc<;>try exact jz)|refine aq ?_|exact jI|(clear hK K)))
     all_goals(refine ba [.tmp 6] ?_;try simp only[go_sem])
    |false=>
     have WB:=Zu.2 hKR;rw[if_neg (by rw[hKR];decide)]at Wq;rw[hKR]at Zh;refine S ?_
     (have W:=jA ZB (jA Z' (jA k10 (hdt)));repeat' (first|refine av fun K hK=>?_|refine au ?_|(with_reducible refine gR 10 ?_);refine dC 10 ([3,4],[],[72]) [] (bf 0 16) mixed ?_|(refine hK _ _ ?_;clear hK K)|(refine ar ?_ ?_<;>intro hc<;>try exact jz)|refine al 8 ?_|(refine Fi Zh ?_)|(refine bY ?_ ?_<;>intro hc<;>try exact jz)|refine aq ?_|exact jI|(clear hK K)))
     all_goals refine Ut _ _ (py [8] (k+1,KR.2) ⟨by show k+1<=L.length;omega,Zu.1,by show KR.2.1.length<=s.1.length+(k+1);rw[WB];omega,by show s.1.length<=KR.2.1.length;rw[WB];omega,Wq⟩ (by show L.length-(k+1)<L.length-k;omega) rfl Sd (by simp only[go_sem];(try rfl)) jL)
   ·rw[if_neg kb]at Wq;have kb1:¬(nth p.aa.nodes x.toNat).kind=15:=fun h=>kb (.inl h)
    have kb2:¬(nth p.aa.nodes x.toNat).kind=16:=fun h=>kb (.inr h)
    refine S ?_
    (have W:=jA ZB (jA Z' (jA k10 (jA kb1 (kb2))));repeat' (first|refine av fun K hK=>?_|refine au ?_|(with_reducible refine gR 10 ?_);refine dC 10 ([3,4],[],[72]) [] (bf 0 16) mixed ?_|(refine hK _ _ ?_;clear hK K)|(refine ar ?_ ?_<;>intro hc<;>try exact jz)|refine al 8 ?_|refine aq ?_|exact jI|(clear hK K)))
    refine Ut _ _ (py [8] (k+1,t) ⟨by show k+1<=L.length;omega,htt,by show t.1.length<=s.1.length+(k+1);omega,htg,Wq⟩ (by show L.length-(k+1)<L.length-k;omega) rfl Sd (by simp only[go_sem];(try rfl)) jL)
  have Uy:=key _ _ _ rfl rfl rfl;unfold jg;cases e:(mV (jg p node n) p node (ao p b).l s).1 with
  |true=>rw[e]at Uy;simp only[if_true]at Uy ⊢;rw[e];exact Uy
  |false=>rw[e]at Uy;simp only[Bool.false_eq_true,if_false]at Uy ⊢;exact Uy
def D7{p:af}(h:pJ p)(VO:∀k,k<p.aa.nodes.length->0<=nth p.fn k/\nth p.fn k<p.aa.aw.length)(node:Int)(h0:0<=node)(h1:node.toNat<p.aa.nodes.length):aC prog 229 [.agg (cn p),rI node] (aP lc 3 (ij p node)):=by
 obtain⟨f0,f1⟩:=VO _ h1;have hlf:=h.fn;have haJ:=h.aa.many;have YN:(nth p.fn node.toNat).toNat<p.aa.aw.length:=jB;have VW:=o8 h.aa YN;have XF:=h.aa.body _ (ff YN);have hps:=(h.aa.fn _ (ff YN)).2;have Wd:=B1 (p:=p) (node:=node) p.aa.nodes.length (nth p.aa.aw (nth p.fn node.toNat).toNat).body (kD (nth p.aa.aw (nth p.fn node.toNat).toNat).params 0,[]);have W6:=Ih h node p.aa.nodes.length (nth p.aa.aw (nth p.fn node.toNat).toNat).body (kD (nth p.aa.aw (nth p.fn node.toNat).toNat).params 0,[]) VW.1 (by have:=VW.1;have:=VW.2;omega) (by have:=VW.1;have:=VW.2;omega) XF (by unfold kY;rw[xM];simp;omega) (by show(kD _ _).length+_<=_;rw[xM];have:=VW.1;have:=VW.2;omega);unfold ij;simp only at Wd;generalize lB p node p.aa.nodes.length (nth p.aa.aw (nth p.fn node.toNat).toNat).body (kD (nth p.aa.aw (nth p.fn node.toNat).toNat).params 0)=O at*;generalize jg p node p.aa.nodes.length (nth p.aa.aw (nth p.fn node.toNat).toNat).body (kD (nth p.aa.aw (nth p.fn node.toNat).toNat).params 0,[])=R at*;generalize hF:nth p.fn node.toNat=g at*;generalize hG:nth p.aa.aw g.toNat=f at*;refine bQ func229 ntmps229 ?_
 (have W:=jA hF hG;repeat' (first|refine av fun K hK=>?_|refine au ?_|(with_reducible refine gR 1 ?_);refine dE 1 (bf 0 12) mixed ?_|(refine hK _ _ ?_;clear hK K)|(refine ar ?_ ?_<;>intro hc<;>try exact jz)|refine bx 1 ?_|refine bx 2 ?_|refine al 5 ?_|refine al 3 ?_|(refine bY ?_ ?_<;>intro hc<;>try exact jz)|refine aq ?_|exact jI|(clear hK K)))
 refine jw (dV.gl 4 3 0 144 3 rfl jC rfl rfl) ?_
 (refine S ?_;try exact jI)
 have Ux:=hK;clear hK;have Xs:∀k,(kD (f.params.take k) 0).length=min k f.params.length:=fun k=>by rw[xM];simp
 refine eN (S:=Nat) [(7,2),(23,15)] (fun k=>k<=f.params.length) (fun k=>[(23,rI k)]) (fun k=>⟨[],[(1,.var 30 (cn p)),(2,.var 3 [rI node]),(5,.var 98 (fZ f)),(3,.var 101 [.rs 4 k 3 k]),(4,.aG 144 3 ((kD (f.params.take k) 0).map lc))]⟩) (fun k=>f.params.length-k) 0 jB (eR rfl cH) ?_;rintro k hk Kr Ut;have Wa:(kD (f.params.take k) 0).length=k:=by rw[Xs];omega
 by_cases O':k<f.params.length
 ·(refine S ?_;try exact jI)
  (have W:=Wa;repeat' (first|refine av fun K hK=>?_|refine au ?_|(with_reducible refine gR 1 ?_);refine dE 1 (bf 0 12) mixed ?_|(refine hK _ _ ?_;clear hK K)|(refine ar ?_ ?_<;>intro hc<;>try exact jz)|refine al 6 ?_|refine Ux _ _ ?_|(refine bY ?_ ?_<;>intro hc<;>try exact jz)|refine aq ?_|exact jI|(clear hK K)))
  refine Ut _ _ (py [6] (k+1) jB (by show f.params.length-(k+1)<f.params.length-k;omega) rfl Sd ?_ jL);show Hp.mk _ [_,_,_,_,_]=Hp.mk _ [_,_,_,_,(4,.aG _ _ ((kD (f.params.take (k+1)) 0).map lc))];rw[tS O',Ij,List.map_append];have:((0:Int)+(f.params.take k).length)=(k:Int):=by simp;omega
  rw[this];rfl
 ·have YU:k=f.params.length:=jB;subst YU;rw[List.take_length]at Wa ⊢;generalize kD f.params 0=V at*;rw[<-Wa];cases hR:R.1 with
  |true=>
   cases O with
   |none=>rw[Wd.1]at hR;cases hR
   |some W=>
    have hW:R.2.1=W:=Wd.2;rw[hR]at W6;refine S ?_
    (repeat' (first|refine av fun K hK=>?_|refine au ?_|(with_reducible refine gR 1 ?_);refine dE 1 (bf 0 12) mixed ?_|(refine hK _ _ ?_;clear hK K)|(refine ar ?_ ?_<;>intro hc<;>try exact jz)|refine al 7 ?_|(refine cl W6 ?_)|refine Ux _ _ ?_|(refine bY ?_ ?_<;>intro hc<;>try exact jz)|refine aq ?_|exact jI|(clear hK K)))
    subst hW;refine fF [.tmp 4] ?_;exact cY.pI R.2.1 R.2.2 rfl (by show some (Row.aG _ _ _)=some (Row.aG _ _ _);rw[List.map_append]) rfl rfl
  |false=>
   cases O with
   |some W=>rw[Wd.1]at hR;cases hR
   |none=>
    rw[hR]at W6;refine S ?_
    (repeat' (first|refine av fun K hK=>?_|refine au ?_|(with_reducible refine gR 1 ?_);refine dE 1 (bf 0 12) mixed ?_|(refine hK _ _ ?_;clear hK K)|(refine ar ?_ ?_<;>intro hc<;>try exact jz)|refine al 7 ?_|(refine cl W6 ?_)|refine Ux _ _ ?_|(refine bY ?_ ?_<;>intro hc<;>try exact jz)|refine aq ?_|exact jI|(clear hK K)))
    refine fF [.tmp 4] ?_;exact cY.nil _ _
end Go.Proofs.YtijdhbokcdpklaaGreatDoor
namespace Go.Proofs.YtijdhbokcdpklaaGreatDoor
open Go Go.Gd Tryz Go.Gd.MV
def sE(nm:UI)(v:aj):UD:=[(5,.var 9 [rS nm]),(7,.var 42 (bV v))]
attribute [go_sem] sE Bool.false_and Bool.true_and
def G2(nm:UI)(v:aj):∀i r,aA (sE nm v) i=some r->aY (fun i=>(ids (sE nm v)).contains i) r.cells=true:=fun i r h=>by
 unfold sE at h;simp only[aA]at h;split at h
 ·cases h;rfl
 ·split at h
  ·cases h;rfl
  ·cases h
def FA(nm:UI)(v:aj):(ids (sE nm v)).Nodup:=by simp[sE,ids]
def IJ{e tl:UD}(Ul:∀i,i<1000->aA e i=none){nm:UI}{v:aj}(h5:aA tl 5=some (.var 9 [rS nm]))(h7:aA tl 7=some (.var 42 (bV v))):∀i r,aA (sE nm v) i=some r->aA (tie e tl) i=some r:=fun i r h=>by
 unfold sE at h;simp only[aA]at h;split at h
 ·rename_i e;subst e;cases h;rw[kg,Ul 5 jC];exact h5
 ·split at h
  ·rename_i e;subst e;cases h;rw[kg,Ul 7 jC];exact h7
  ·cases h
def NI(nm:UI)(v:aj)(x:bE):ab prog 231 [.agg (lc x),.pt 5 0 0 0,.pt 7 0 0 0] (sE nm v) (fun r l=>r=rB (decide (x.name=nm/\x.ty=v.ty))/\l=sE nm v):=by
 suffices key:∀b,decide (x.name=nm/\x.ty=v.ty)=b->ab prog 231 [.agg (lc x),.pt 5 0 0 0,.pt 7 0 0 0] (sE nm v) (fun r l=>r=rB b/\l=sE nm v) from key _ rfl
 intro b hb;by_cases c1:x.name=nm
 ·by_cases c2:x.ty=v.ty
  ·rw[decide_eq_true ⟨c1,c2⟩]at hb;subst hb;refine aM func231 ntmps231 ?_;refine S ?_
   (have W:=jA c1 c2;repeat' (first|refine av fun K hK=>?_|refine au ?_|(refine hK _ _ ?_;clear hK K)|(refine ar ?_ ?_<;>intro hc<;>try exact jz)|refine bx 9 ?_|(refine bY ?_ ?_<;>intro hc<;>try exact jz)|refine aq ?_|exact jI|(clear hK K)))
   (refine ba [.tmp 4] ?_;try simp only[go_sem])
  ·rw[decide_eq_false (fun h=>c2 h.2)]at hb;subst hb;refine aM func231 ntmps231 ?_;refine S ?_
   (have W:=jA c1 c2;repeat' (first|refine av fun K hK=>?_|refine au ?_|(refine hK _ _ ?_;clear hK K)|(refine ar ?_ ?_<;>intro hc<;>try exact jz)|refine bx 9 ?_|(refine bY ?_ ?_<;>intro hc<;>try exact jz)|refine aq ?_|exact jI|(clear hK K)))
   (refine ba [.tmp 4] ?_;try simp only[go_sem])
 ·rw[decide_eq_false (fun h=>c1 h.1)]at hb;subst hb;refine aM func231 ntmps231 ?_;refine S ?_
  (have W:=c1;repeat' (first|refine av fun K hK=>?_|refine au ?_|(refine hK _ _ ?_;clear hK K)|(refine ar ?_ ?_<;>intro hc<;>try exact jz)|refine bx 9 ?_|(refine bY ?_ ?_<;>intro hc<;>try exact jz)|refine aq ?_|exact jI|(clear hK K)))
  (refine ba [.tmp 4] ?_;try simp only[go_sem])
def Fs(nm:UI)(v:aj)(L:List bE)(hL:L.length<=100000):ab prog 230 [aP lc 3 L,.dW 231 [.pt 5 0 0 0,.pt 7 0 0 0]] (sE nm v) (fun r l=>r=rI (iz nm v.ty L 0)/\l=sE nm v):=by
 suffices key:∀z,iz nm v.ty L 0=z->ab prog 230 [aP lc 3 L,.dW 231 [.pt 5 0 0 0,.pt 7 0 0 0]] (sE nm v) (fun r l=>r=rI z/\l=sE nm v) from key _ rfl
 intro z hz;refine aM func230 ntmps230 ?_;refine S ?_
 (repeat' (first|refine av fun K hK=>?_|refine au ?_|(refine hK _ _ ?_;clear hK K)|(refine ar ?_ ?_<;>intro hc<;>try exact jz)|(refine bY ?_ ?_<;>intro hc<;>try exact jz)|refine aq ?_|exact jI|(clear hK K)))
 have Ux:=hK;clear hK;refine eN (S:=Nat) [(4,2),(8,11)] (fun k=>k<=L.length/\∀j,j<k->¬((nth L j).name=nm/\(nth L j).ty=v.ty)) (fun k=>[(8,rI k)]) (fun _=>⟨[5,7],sE nm v⟩) (fun k=>L.length-k) 0 ⟨Nat.zero_le _,fun j h=>jB⟩ (eR rfl cH) ?_;rintro k ⟨hk,Ur⟩ Kr Ut;by_cases O':k<L.length
 ·have Uw:=NI nm v (nth L k);by_cases c:(nth L k).name=nm/\(nth L k).ty=v.ty
  ·rw[decide_eq_true c]at Uw;have:=P4 O' c Ur;rw[hz]at this;subst this;refine S ?_
   (have W:=O';repeat' (first|refine av fun K hK=>?_|refine au ?_|(refine hK _ _ ?_;clear hK K)|(refine ar ?_ ?_<;>intro hc<;>try exact jz)|(refine cl Uw ?_)|refine Ux _ _ ?_|(refine bY ?_ ?_<;>intro hc<;>try exact jz)|refine aq ?_|exact jI|(clear hK K)))
   (refine ba [.tmp 4] ?_;try simp only[go_sem])
  ·rw[decide_eq_false c]at Uw;refine S ?_
   (have W:=O';repeat' (first|refine av fun K hK=>?_|refine au ?_|(refine hK _ _ ?_;clear hK K)|(refine ar ?_ ?_<;>intro hc<;>try exact jz)|(refine cl Uw ?_)|refine Ux _ _ ?_|(refine bY ?_ ?_<;>intro hc<;>try exact jz)|refine aq ?_|exact jI|(clear hK K)))
   exact Ut _ _ (eQ (k+1) ⟨jB,fun j hj=>by
    by_cases e:j<k
    ·exact Ur j e
    ·rw[show j=k from jB];exact c⟩ (by show L.length-(k+1)<L.length-k;omega) rfl cH)
 ·have:=Ly (nm:=nm) (ty:=v.ty) (l:=L) fun j hj=>Ur j jB
  rw[hz]at this;subst this;refine S ?_
  (have W:=O';repeat' (first|refine av fun K hK=>?_|refine au ?_|(refine hK _ _ ?_;clear hK K)|(refine ar ?_ ?_<;>intro hc<;>try exact jz)|refine Ux _ _ ?_|(refine bY ?_ ?_<;>intro hc<;>try exact jz)|refine aq ?_|exact jI|(clear hK K)))
  (refine ba [.tmp 4] ?_;try simp only[go_sem])
end Go.Proofs.YtijdhbokcdpklaaGreatDoor
namespace Go.Proofs.YtijdhbokcdpklaaGreatDoor
open Go Go.Gd Tryz
theorem BG{p:af}(h:fX p):∀(j i:Nat),j<p.aa.aw.length->i<j->(nth p.aa.aw i).body.toNat<kS p.aa j
 |0,i,_,h2=>by omega
 |j+1,i,h1,h2=>by
  have hc:=(h.aw j jB).chain.le;have e:kS p.aa (j+1)=(nth p.aa.aw j).body.toNat+1:=by unfold kS;rw[jN];rfl
  rw[e];by_cases k:i=j
  ·subst k;omega
  ·have:=BG h j i jB jB;omega
variable{p:af}
def PL(h:fX p){i j:Nat}(hi:i<p.aa.aw.length)(hj:j<p.aa.aw.length){a:Nat}(h1:kS p.aa i<=a)(h2:a<=(nth p.aa.aw i).body.toNat)(h3:kS p.aa j<=a)(h4:a<=(nth p.aa.aw j).body.toNat):i=j:=by
 rcases Nat.lt_trichotomy i j with k|k|k
 ·have:=BG h j i hj k;omega
 ·exact k
 ·have:=BG h i j hi k;omega
def tj(p:af)(j:Nat)(v:bE):Prop:=0<=v.slot/\v.slot<nth p.size j
def Ov(h:pJ p){x:Int}(hx:x.toNat<p.aa.nodes.length)(kb:(nth p.aa.nodes x.toNat).kind=15\/(nth p.aa.nodes x.toNat).kind=16):∀y∈(nth p.aa.nodes x.toNat).l.drop 1,bX p.aa.nodes y=18:=fun y hy=>by
 have shx:=h.aa.shape x.toNat hx;rcases kb with kb|kb
 ·obtain⟨a,c,_,hb,hl|⟨d,hl,hd⟩⟩:=shx.1.lE kb
  ·rw[hl]at hy;simp at hy;subst hy;exact hb
  ·rw[hl]at hy;simp at hy;rcases hy with rfl|rfl
   ·exact hb
   ·exact hd
 ·obtain⟨a,c,hl,_,hb⟩:=shx.1.eG kb;rw[hl]at hy;simp at hy;subst hy;exact hb
theorem FP{p:af}(h:fX p){j:Nat}(hj:j<p.aa.aw.length)(node:Int):∀(n:Nat) (b:Int) (vars R:List bE),nw p j ⟨b,0⟩->(∀v∈vars,tj p j v)->lB p node n b vars=some R->(∀v∈R,tj p j v)/\kS p.aa j<=node.toNat/\node.toNat<=(nth p.aa.aw j).body.toNat
 |0,b,vars,R,_,_,e=>by cases e
 |n+1,b,vars,R,hb,hv,e=>by
  have ih:=FP h hj node n;have hf:=h.aw j hj;have aF:∀(l:UG) (vs R:List bE),(∀y∈l,nw p j ⟨y,0⟩)->(∀v∈vs,tj p j v)->oZ (lB p node n) vs l=some R->(∀v∈R,tj p j v)/\kS p.aa j<=node.toNat/\node.toNat<=(nth p.aa.aw j).body.toNat:=fun l=>by
   induction l with
   |nil=>intro vs R _ _ e;cases e
   |cons y l ihl=>
    intro vs R hl WX e;unfold oZ at e;cases e1:lB p node n y vs with
    |none=>rw[e1]at e;exact ihl vs R (fun z hz=>hl z (by simp[hz])) WX e
    |some R'=>rw[e1]at e;cases e;exact ih y vs _ (hl y jE) WX e1
  have sc:∀(l:UG) (vs R:List bE),(∀x∈l,x∈xh p b)->(∀v∈vs,tj p j v)->pV (lB p node n) p node l vs=some R->(∀v∈R,tj p j v)/\kS p.aa j<=node.toNat/\node.toNat<=(nth p.aa.aw j).body.toNat:=fun l=>by
   induction l with
   |nil=>intro vs R _ _ e;cases e
   |cons x l ihl=>
    intro vs R hx WX e;obtain⟨x0,x1,x2,x3⟩:=hb.aF h (by omega:(0:Int)<=j) jB (hx x jE);have x1:x.toNat<b.toNat:=x1;have x2:kS p.aa j<=x.toNat:=by rw[Int.toNat_natCast]at x2;exact x2
    have XH:b.toNat<=(nth p.aa.aw j).body.toNat:=by have:=hb.hi;rw[Int.toNat_natCast]at this;exact this
    have VW:=o8 h.ok.aa hj;have YQ:x.toNat<p.aa.nodes.length:=by have:=VW.1;have:=VW.2;omega
    have Z8:∀v∈lV p x vs,tj p j v:=fun v U3=>by
     unfold lV at U3;split at U3
     ·rename_i k10;rcases List.mem_append.1 U3 with U3|U3
      ·exact WX v U3
      ·rw[List.mem_singleton]at U3;subst U3;have k10:(nth p.aa.nodes x.toNat).kind=10:=k10;exact hf.all x.toNat x2 jB (by unfold ju;omega)
     ·exact WX v U3
    unfold pV at e;split at e
    ·rename_i ex;cases e;rw[<-ex];exact⟨WX,x2,jB⟩
    ·cases e1:(if(ao p x).kind=15\/(ao p x).kind=16 then oZ (lB p node n) (lV p x vs) ((ao p x).l.drop 1)else none)with
     |none=>rw[e1]at e;exact ihl _ R (fun y hy=>hx y (by simp[hy])) Z8 e
     |some R'=>
      rw[e1]at e;cases e;split at e1
      ·rename_i kb;refine aF _ _ _ (fun y hy=>?_) Z8 e1;have Y7:y∈(nth p.aa.nodes x.toNat).l:=List.mem_of_mem_drop hy;have Z9:=(h.ok.aa.shape x.toNat YQ).2.1 y Y7;have Ul:=hf.chain.closed x.toNat x2 jB y Y7;exact⟨Z9.1,by rw[Int.toNat_natCast];exact Ul,by rw[Int.toNat_natCast];show y.toNat<=_;omega,Ov h.ok YQ kb y hy,Int.le_refl _,by show(0:Int)<=_;omega⟩
      ·cases e1
  exact sc (ao p b).l vars R (fun x hx=>hx) hv e
theorem I8{z:Int}:∀(l:List bI) (i:Int),0<=i->i+l.length<=z->∀v∈kD l i,0<=v.slot/\v.slot<z
 |[],i,_,_,v,hv=>by cases hv
 |x::l,i,h0,h1,v,hv=>by
  simp only[List.length_cons]at h1;simp only[kD,List.mem_cons]at hv;rcases hv with rfl|hv
  ·exact⟨h0,by show i<z;omega⟩
  ·exact I8 l (i+1) jB jB v hv
def RM(h:fX p)(VO:∀k,k<p.aa.nodes.length->0<=nth p.fn k/\nth p.fn k<p.aa.aw.length){node:Int}(h1:node.toNat<p.aa.nodes.length){j:Nat}(hj:j<p.aa.aw.length)(h2:kS p.aa j<=node.toNat)(h3:node.toNat<=(nth p.aa.aw j).body.toNat):∀v∈ij p node,tj p j v:=by
 obtain⟨f0,f1⟩:=VO _ h1;have YN:(nth p.fn node.toNat).toNat<p.aa.aw.length:=jB;have VW:=o8 h.ok.aa YN;have hf:=h.aw _ YN;unfold ij;cases e:lB p node p.aa.nodes.length (nth p.aa.aw (nth p.fn node.toNat).toNat).body (kD (nth p.aa.aw (nth p.fn node.toNat).toNat).params 0)with
 |none=>intro v hv;cases hv
 |some R=> obtain⟨a,b,c⟩:=FP h YN node _ _ _ R ⟨VW.1,by rw[Int.toNat_natCast];exact hf.chain.le,by rw[Int.toNat_natCast];exact Nat.le_refl _,h.ok.aa.body _ (ff YN),Int.le_refl _,by show(0:Int)<=_;omega⟩ (I8 _ _ (Int.le_refl _) (by have:=hf.wl;omega)) e;rw[PL h hj YN h2 h3 b c];exact a
def FV(h:pJ p)(VO:∀k,k<p.aa.nodes.length->0<=nth p.fn k/\nth p.fn k<p.aa.aw.length){node:Int}(h1:node.toNat<p.aa.nodes.length):(ij p node).length<=100000:=by
 obtain⟨f0,f1⟩:=VO _ h1;have YN:(nth p.fn node.toNat).toNat<p.aa.aw.length:=jB;have hps:=(h.aa.fn _ (ff YN)).2;have hm:=h.aa.many;unfold ij;cases e:lB p node p.aa.nodes.length (nth p.aa.aw (nth p.fn node.toNat).toNat).body (kD (nth p.aa.aw (nth p.fn node.toNat).toNat).params 0)with
 |none=>exact Nat.zero_le _
 |some R=> have:=EQ (zD h) _ _ _ _ e;rw[xM]at this;show R.length<=_;omega
end Go.Proofs.YtijdhbokcdpklaaGreatDoor
namespace Go.Proofs.YtijdhbokcdpklaaGreatDoor
open Go Go.Gd Tryz Go.Gd.MV
def gq(C:aI)(m:MV):Int:=(nth (m.dJ C).calls ((m.dJ C).calls.length-1)).node
def dv(p:af)(C:aI)(m:MV)(nm:UI)(v:aj):Option MV:=
 if(m.status=2\/m.status=3)\/lW v=false\/v.ty=4 then none
 else if iz nm v.ty (ij p (gq C m)) 0<0 then none
 else some (rF m (nth (ij p (gq C m)) (iz nm v.ty (ij p (gq C m)) 0).toNat).slot.toNat v)
section
variable {p:af}{C:aI}{m:MV}{N:NM}{e:UD}(hR:bL p C m N e)(hk:uA C m)(nm:UI)(v:aj)
include hR hk
theorem PW(h:(m.status=2\/m.status=3)\/lW v=false\/v.ty=4):cW prog 227 [.agg (cn p),mP N,rS nm,.agg (bV v)] e (rB false) e:=by
 have Wb:=xz hR hk;have Ul:=hR.ok.low;have YO:=vV v;have P':(m.dJ C).status=m.status:=rfl;refine⟨?_,hR.ok,hR.ok,fun _ h=>h,?_⟩;rotate_left
 ·simp only[aY,AV.all,ga hR.root,Bool.and_self,Bool.and_true,bV];rfl
 rw[<-P']at h;generalize m.dJ C=Sh at*;clear P';have hq:(Sh.status=2/\True/\True)\/(¬Sh.status=2/\Sh.status=3/\True)\/(¬Sh.status=2/\¬Sh.status=3/\lW v=false)\/(¬Sh.status=2/\¬Sh.status=3/\(lW v=true/\v.ty=4)):=by
  by_cases a:Sh.status=2
  ·exact .inl ⟨a,trivial,trivial⟩
  by_cases b:Sh.status=3
  ·exact .inr (.inl ⟨a,b,trivial⟩)
  cases c:lW v
  ·exact .inr (.inr (.inl ⟨a,b,rfl⟩))
  ·refine .inr (.inr (.inr ⟨a,b,rfl,?_⟩));rcases h with h|h|h
   ·omega
   ·rw[c]at h;cases h
   ·exact h
 rcases hq with⟨q1,q2,q3⟩|⟨q1,q2,q3⟩|⟨q1,q2,q3⟩|⟨q1,q2,q3,q4⟩
 all_goals try rw[q3]at YO
 all_goals
  refine aM (L:=ids e) func227 ntmps227 ?_ (hL:=rfl);generalize hB:ids e=B;refine eW ?_
  (have W:=jA Ul (jA q1 (q2));repeat' (first|refine av fun K hK=>?_|refine au ?_|(with_reducible refine gR 4 ?_);refine dE 4 (bf 0 12) mixed ?_|(with_reducible refine gR 6 ?_);refine dE 6 (bf 0 13) mixed ?_|(refine hK _ _ ?_;clear hK K)|(refine ar ?_ ?_<;>intro hc<;>try exact jz)|refine aV 4 ?_|refine aV 5 ?_|refine aV 7 ?_|refine cL 9 ?_|refine cp (YO) ?_|refine cq (YO) ?_|(refine⟨rB false,?_⟩;refine S ?_)|refine cT Wb ?_|(refine bY ?_ ?_<;>intro hc<;>try exact jz)|refine aq ?_|exact jI|(clear hK K)))
  try(exact eD hB hR.ok hR.ok (tl:=[(4,.var 30 (cn p)),(5,.var 9 [rS nm]),(7,.var 42 (bV v)),(9,.var 114 (lp Sh))]) (fun _=>rfl) (dp jC (dp jC (dp jC (dp jC dK)))) [.tmp 8])
theorem Gw(hs:fX p)(VO:∀k,k<p.aa.nodes.length->0<=nth p.fn k/\nth p.fn k<p.aa.aw.length)(hM:MI p C m)(h2:¬(m.status=2\/m.status=3)):1<=m.calls.length/\(m.dJ C).calls.length=m.calls.length/\0<=gq C m/\(gq C m).toNat<p.aa.nodes.length/\∀x∈ij p (gq C m),0<=x.slot/\x.slot<m.ah.slots.length:=by
 obtain⟨h1,_,_,_⟩:=hM.ah fun e=>h2 (.inl e)
 have hl:(m.dJ C).calls.length=m.calls.length:=by show((List.range m.calls.length).map _).length=_;simp
 have hn:nth (m.dJ C).calls ((m.dJ C).calls.length-1)=m.spot C (m.calls.length-1):=by rw[hl];show nth ((List.range m.calls.length).map (m.spot C)) (m.calls.length-1)=_;rw[fO jF];simp
 have Ys:=Mg hM (k:=m.calls.length-1) jB;have ht:gq C m=(m.spot C (m.calls.length-1)).node:=by unfold gq;rw[hn]
 have f0:=Ys.f0;have f1:=Ys.f1;refine⟨h1,hl,by rw[ht];exact Ys.n0,by rw[ht];exact Ys.n1,fun x hx=>?_⟩;rw[ht]at hx;obtain⟨a,b⟩:=RM hs VO Ys.n1 (j:=(m.spot C (m.calls.length-1)).fn.toNat) jB Ys.in_.1 Ys.in_.2 x hx;exact⟨a,by have:=Ys.sl;show x.slot<((m.spot C (m.calls.length-1)).slots.length:Int);omega⟩
theorem My(hs:fX p)(VO:∀k,k<p.aa.nodes.length->0<=nth p.fn k/\nth p.fn k<p.aa.aw.length)(hM:MI p C m)(h2:¬(m.status=2\/m.status=3))(hm:lW v=true)(h4:¬v.ty=4)(hf:iz nm v.ty (ij p (gq C m)) 0<0):cW prog 227 [.agg (cn p),mP N,rS nm,.agg (bV v)] e (rB false) e:=by
 have Wb:=xz hR hk;have Ul:=hR.ok.low;have YO:=vV v;rw[hm]at YO;obtain⟨h1,hl,n0,n1,_⟩:=Gw hR hk hs VO hM h2;have hvc:=D7 hs.ok VO (gq C m) n0 n1;have YZ:=FV hs.ok VO n1;have Xa:=Fs nm v (ij p (gq C m)) jB;generalize iz nm v.ty (ij p (gq C m)) 0=z at*;generalize ij p (gq C m)=V at*;have hc8:m.calls.length<=1000:=by have:=hk.1;omega
 refine⟨?_,hR.ok,hR.ok,fun _ h=>h,?_⟩;rotate_left
 ·simp only[aY,AV.all,ga hR.root,Bool.and_self,Bool.and_true,bV];rfl
 have q1:¬(m.dJ C).status=2:=fun e=>h2 (.inl e)
 have q2:¬(m.dJ C).status=3:=fun e=>h2 (.inr e)
 have e1:(((m.dJ C).calls.length:Int)-1).toNat=(m.dJ C).calls.length-1:=jB;have g1:(m.dJ C).calls.length-1<(m.dJ C).calls.length:=jB;have g2:0<=((m.dJ C).calls.length:Int)-1:=jB;have et:(nth (m.dJ C).calls ((m.dJ C).calls.length-1)).node=gq C m:=rfl;have hz:¬z >= 0:=jB;generalize gq C m=a at*;generalize m.dJ C=Sh at*;refine aM (L:=ids e) func227 ntmps227 ?_ (hL:=rfl);generalize hB:ids e=B;refine eW ?_
 (have W:=jA Ul (jA q1 (jA q2 (jA h4 (jA e1 (jA g1 (jA g2 (jA et (hz))))))));repeat' (first|refine av fun K hK=>?_|refine au ?_|(with_reducible refine gR 4 ?_);refine dE 4 (bf 0 12) mixed ?_|(with_reducible refine gR 6 ?_);refine dE 6 (bf 0 13) mixed ?_|(refine hK _ _ ?_;clear hK K)|(refine ar ?_ ?_<;>intro hc<;>try exact jz)|refine aV 4 ?_|refine aV 5 ?_|refine aV 7 ?_|refine cL 9 ?_|refine cp (YO) ?_|refine cq (YO) ?_|refine cp (hvc) ?_|(refine Hj Xa (IJ Ul rfl rfl) rfl (G2 nm v) (FA nm v) ?_;try refine S ?_)|(refine⟨rB false,?_⟩;refine S ?_)|refine cT Wb ?_|(refine bY ?_ ?_<;>intro hc<;>try exact jz)|refine aq ?_|exact jI|(clear hK K)))
 exact eD hB hR.ok hR.ok (tl:=[(4,.var 30 (cn p)),(5,.var 9 [rS nm]),(7,.var 42 (bV v)),(9,.var 114 (lp Sh))]) (fun _=>rfl) (dp jC (dp jC (dp jC (dp jC dK)))) [.tmp 8]
theorem E3(hs:fX p)(VO:∀k,k<p.aa.nodes.length->0<=nth p.fn k/\nth p.fn k<p.aa.aw.length)(hM:MI p C m)(h2:¬(m.status=2\/m.status=3))(hm:lW v=true)(h4:¬v.ty=4)(hf:¬iz nm v.ty (ij p (gq C m)) 0<0) :
  cW prog 227 [.agg (cn p),mP N,rS nm,.agg (bV v)] e (rB true) (bj e (hn 1 N.ah.c) (.aG 42 3 ((m.ah.slots.set (nth (ij p (gq C m)) (iz nm v.ty (ij p (gq C m)) 0).toNat).slot.toNat v).map bV)))/\
   bL p C (rF m (nth (ij p (gq C m)) (iz nm v.ty (ij p (gq C m)) 0).toNat).slot.toNat v) N (bj e (hn 1 N.ah.c) (.aG 42 3 ((m.ah.slots.set (nth (ij p (gq C m)) (iz nm v.ty (ij p (gq C m)) 0).toNat).slot.toNat v).map bV))):=by
 have Wb:=xz hR hk;have Ul:=hR.ok.low;have YO:=vV v;rw[hm]at YO;obtain⟨h1,hl,n0,n1,VH⟩:=Gw hR hk hs VO hM h2;have hvc:=D7 hs.ok VO (gq C m) n0 n1;have YZ:=FV hs.ok VO n1;have Xa:=Fs nm v (ij p (gq C m)) jB;obtain⟨k0,ek,UW,_,_⟩:=yW nm v.ty (ij p (gq C m)) 0 (by show 0<=iz nm v.ty (ij p (gq C m)) 0;omega);have ek:iz nm v.ty (ij p (gq C m)) 0=0+(k0:Int):=ek;rw[Int.zero_add]at ek;obtain⟨Yo,hs2⟩:=VH _ (ff UW);rw[ek,Int.toNat_natCast];rw[ek]at Xa;clear hf ek VH;have UY:=hk;obtain⟨_,_,s3,_⟩:=UY;have Wp:=s3 (m.calls.length-1) jB;have Wp:m.ah.slots.length<=1000:=by have:(nth m.calls (m.calls.length-1)).slots.length=m.ah.slots.length:=rfl;omega
 obtain⟨kk,ekk⟩:∃kk:Nat,(nth (ij p (gq C m)) k0).slot=(kk:Int):=⟨(nth (ij p (gq C m)) k0).slot.toNat,jB⟩;rw[ekk,Int.toNat_natCast];obtain⟨WX,Vs⟩:=M7 hR h2 h1 kk jB Wp v;refine⟨?_,Vs⟩;have k2:=Vs.ok;have hkp:=WX.aX;have u':∀X Y,As ([hn 1 N.ah.c],X,Y) e (bj e (hn 1 N.ah.c) (.aG 42 3 ((m.ah.slots.set kk v).map bV))):=fun X Y j hj _=>.inl (by rw[bP,if_neg];rintro rfl;simp at hj)
 generalize bj e (hn 1 N.ah.c) (.aG 42 3 ((m.ah.slots.set kk v).map bV))=E at*;clear Vs;generalize ij p (gq C m)=V at*;have hc8:m.calls.length<=1000:=by have:=hk.1;omega
 refine⟨?_,hR.ok,k2,hkp,?_⟩;rotate_left
 ·simp only[aY,AV.all,ga hR.root,Bool.and_self,Bool.and_true,bV];rfl
 have q1:¬(m.dJ C).status=2:=fun e=>h2 (.inl e)
 have q2:¬(m.dJ C).status=3:=fun e=>h2 (.inr e)
 have e1:(((m.dJ C).calls.length:Int)-1).toNat=(m.dJ C).calls.length-1:=jB;have g1:(m.dJ C).calls.length-1<(m.dJ C).calls.length:=jB;have g2:0<=((m.dJ C).calls.length:Int)-1:=jB;have et:(nth (m.dJ C).calls ((m.dJ C).calls.length-1)).node=gq C m:=rfl;have hz:(k0:Int) >= 0:=jB;generalize gq C m=a at*;generalize m.dJ C=Sh at*;refine aM (L:=ids e) func227 ntmps227 ?_ (hL:=rfl);generalize hB:ids e=B;refine eW ?_
 (have W:=jA Ul (jA q1 (jA q2 (jA h4 (jA e1 (jA g1 (jA g2 (jA et (jA hz (jA UW (ekk))))))))));repeat' (first|refine av fun K hK=>?_|refine au ?_|(with_reducible refine gR 4 ?_);refine dE 4 (bf 0 12) mixed ?_|(with_reducible refine gR 6 ?_);refine qA 6 [hn 1 N.ah.c] [] [56] [] (bf 0 13) mixed ?_|(refine hK _ _ ?_;clear hK K)|(refine ar ?_ ?_<;>intro hc<;>try exact jz)|refine aV 4 ?_|refine aV 5 ?_|refine aV 7 ?_|refine cL 9 ?_|refine cp (YO) ?_|refine cq (YO) ?_|refine cp (hvc) ?_|(refine Hj Xa (IJ Ul rfl rfl) rfl (G2 nm v) (FA nm v) ?_;try refine S ?_)|(refine nN WX (u' _ _) ?_)|refine cT Wb ?_|(refine bY ?_ ?_<;>intro hc<;>try exact jz)|refine aq ?_|exact jI|(clear hK K)))
 exact eD hB hR.ok k2 (tl:=[(4,.var 30 (cn p)),(5,.var 9 [rS nm]),(7,.var 42 (bV v)),(9,.var 114 (lp Sh))]) (fun _=>rfl) (dp jC (dp jC (dp jC (dp jC dK)))) [.tmp 8]
end
end Go.Proofs.YtijdhbokcdpklaaGreatDoor