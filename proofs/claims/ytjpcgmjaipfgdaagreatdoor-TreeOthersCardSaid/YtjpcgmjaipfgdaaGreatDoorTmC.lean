/- Lemmas. No conditions. -/
import Derived.Test.YtjpcgmjaipfgdaaGreatDoorTrR
import Derived.Test.YtjpcgmjaipfgdaaGreatDoorTmX
set_option linter.all false
set_option maxHeartbeats 4000000
set_option maxRecDepth 10000
namespace Go.Gd
open Go
abbrev VS:=List bD×List bD
def qF(x:bD)(s:VS):VS:=(s.1++[x],s.2.drop 1)
def oS(m:Nat)(s:VS):VS:=(s.1.take m,s.1.drop m++s.2)
def kI(w:Int->VS->Bool×VS):TG->VS->Bool×VS
 |[],s=>(false,s)
 |b::l,s=>if(w b s).1=true then(true,(w b s).2)else kI w l (w b s).2
def mL(w:Int->VS->Bool×VS)(p:af)(node:Int):TG->VS->Bool×VS
 |[],s=>(false,s)
 |x::l,s=>
  if x=node then(true,s)
  else if(au p x).kind=10 then mL w p node l (qF (qh p x) s)
  else if(au p x).kind=15\/(au p x).kind=16 then
   (if(kI w ((au p x).l.drop 1) s).1=true then(true,(kI w ((au p x).l.drop 1) s).2)else mL w p node l (kI w ((au p x).l.drop 1) s).2)
  else mL w p node l s
def jg(p:af)(node:Int):Nat->Int->VS->Bool×VS
 |0,_,s=>(false,s)
 |n+1,b,s=>if(mL (jg p node n) p node (au p b).l s).1=true then mL (jg p node n) p node (au p b).l s else(false,oS s.1.length (mL (jg p node n) p node (au p b).l s).2)
def xc(s:VS)(o:Option (List bD))(r:Bool×VS):Prop:=match o with
 |some R=>r.1=true/\r.2.1=R
 |none=>r.1=false/\r.2.1=s.1
theorem FC{w:Int->VS->Bool×VS}{v:Int->List bD->Option (List bD)}(h:∀b s,xc s (v b s.1) (w b s)):∀(l:TG) (s:VS),xc s (pi v s.1 l) (kI w l s)
 |[],s=>⟨rfl,rfl⟩
 |b::l,s=>by
  have hb:=h b s;unfold pi kI;cases e:v b s.1 with
  |some R=> rw[e]at hb;rw[if_pos hb.1];exact⟨rfl,hb.2⟩
  |none=>
   rw[e]at hb;rw[if_neg (by rw[hb.1];decide),Option.none_or];have:=FC h l (w b s).2;rw[hb.2]at this;unfold xc at this ⊢;rw[<-hb.2];rw[hb.2];cases e2:pi v s.1 l with
   |some R=>rw[e2]at this;exact this
   |none=>rw[e2]at this;exact⟨this.1,this.2.trans hb.2⟩
def Lg(s:VS)(o:Option (List bD))(r:Bool×VS):Prop:=match o with
 |some R=>r.1=true/\r.2.1=R
 |none=>r.1=false/\r.2.1.take s.1.length=s.1
theorem xW{p:af}{node:Int}{w:Int->VS->Bool×VS}{v:Int->List bD->Option (List bD)}(h:∀b s,xc s (v b s.1) (w b s)):∀(l:TG) (s:VS),Lg s (pE v p node l s.1) (mL w p node l s)
 |[],s=>⟨rfl,List.take_length⟩
 |x::l,s=>by
  unfold pE mL;by_cases hx:x=node
  ·rw[if_pos hx,if_pos hx];exact⟨rfl,rfl⟩
  rw[if_neg hx,if_neg hx];by_cases k10:(au p x).kind=10
  ·rw[if_pos k10,jN,Option.none_or];have:=xW (p:=p) (node:=node) h l (qF (qh p x) s);have e:(qF (qh p x) s).1=lV p x s.1:=by unfold lV;rw[if_pos k10];rfl
   rw[e]at this;cases e2:pE v p node l (lV p x s.1)with
   |some R=>rw[e2]at this;exact this
   |none=>
    rw[e2]at this;refine⟨this.1,?_⟩;have h2:=this.2;rw[e]at h2;have h3:(lV p x s.1).take s.1.length=s.1:=by unfold lV;rw[if_pos k10,List.take_left]
    have hl:s.1.length<=(lV p x s.1).length:=by unfold lV;rw[if_pos k10];simp
    have h4:(mL w p node l (qF (qh p x) s)).2.1.take s.1.length=((mL w p node l (qF (qh p x) s)).2.1.take (lV p x s.1).length).take s.1.length:=by rw[List.take_take,Nat.min_eq_left hl]
    rw[h4,h2,h3]
  rw[if_neg k10];have hl:lV p x s.1=s.1:=by unfold lV;rw[if_neg k10]
  rw[hl];by_cases kb:(au p x).kind=15\/(au p x).kind=16
  ·rw[if_pos kb,if_pos kb];have hk:=FC h ((au p x).l.drop 1) s;cases e:pi v s.1 ((au p x).l.drop 1)with
   |some R=>rw[e]at hk;rw[if_pos hk.1];exact⟨rfl,hk.2⟩
   |none=>
    rw[e]at hk;rw[if_neg (by rw[hk.1];decide),Option.none_or];have:=xW (p:=p) (node:=node) h l (kI w ((au p x).l.drop 1) s).2;rw[hk.2]at this;cases e2:pE v p node l s.1 with
    |some R=>rw[e2]at this;exact this
    |none=>rw[e2]at this;refine⟨this.1,?_⟩;have h2:=this.2;rw[hk.2]at h2;exact h2
  ·rw[if_neg kb,if_neg kb,Option.none_or];exact xW (p:=p) (node:=node) h l s
theorem B1{p:af}{node:Int}:∀(n:Nat) (b:Int) (s:VS),xc s (lB p node n b s.1) (jg p node n b s)
 |0,b,s=>⟨rfl,rfl⟩
 |n+1,b,s=>by
  have:=xW (p:=p) (node:=node) (B1 (p:=p) (node:=node) n) (au p b).l s;unfold lB jg;cases e:pE (lB p node n) p node (au p b).l s.1 with
  |some R=>rw[e]at this;rw[if_pos this.1];exact this
  |none=>rw[e]at this;rw[if_neg (by rw[this.1];decide)];exact⟨rfl,this.2⟩
def kU(s:VS):Nat:=s.1.length+s.2.length
def G3(x:bD)(s:VS){T:Nat}(h:kU s<=T)(h1:s.1.length+1<=T):kU (qF x s)<=T:=by unfold kU qF at*;simp only[List.length_append,List.length_cons,List.length_nil,List.length_drop];omega
def Rr(m:Nat)(s:VS):kU (oS m s)=kU s:=by unfold kU oS;simp only[List.length_append,List.length_take,List.length_drop];omega
def FW{p:af}{node:Int}{n:Nat}{b:Int}{s:VS}(h:(jg p node n b s).1=false):(jg p node n b s).2.1=s.1:=by
 have:=B1 (p:=p) (node:=node) n b s;cases e:lB p node n b s.1 with
 |some R=>rw[e]at this;rw[this.1]at h;cases h
 |none=>rw[e]at this;exact this.2
def ql(w:Int->VS->Bool×VS):TG->VS->Int->Int
 |[],_,_=>-1
 |b::l,s,i=>if(w b s).1=true then i else ql w l (w b s).2 (i+1)
theorem DA(w:Int->VS->Bool×VS):∀(l:TG) (s:VS) (i:Int),0<=i->(kI w l s).1=decide (0<=ql w l s i)
 |[],s,i,_=>rfl
 |b::l,s,i,h=>by
  unfold kI ql;split
  ·exact(decide_eq_true h).symm
  ·exact DA w l _ (i+1) jB
def D3(w:Int->VS->Bool×VS)(b:Int)(l:TG)(s:VS):kI w (b::l) s=if(w b s).1=true then(true,(w b s).2)else kI w l (w b s).2:=by conv=>lhs;unfold kI
def Lo(w:Int->VS->Bool×VS)(b:Int)(l:TG)(s:VS)(i:Int):ql w (b::l) s i=if(w b s).1=true then i else ql w l (w b s).2 (i+1):=by conv=>lhs;unfold ql
@[go_sem] def j2b(f:FuncId)(cs:TE):(AV.dP f cs).cells=[.dP f cs]:=(rfl)
@[go_sem] def j7K(f:FuncId)(cs:TE):(AV.dP f cs).one=true:=by simp[AV.one]
variable{nm:TI}
def ML{ty:Int}{l:List bD}{k:Nat}(hk:k<l.length)(Ut:(nth l k).name=nm/\(nth l k).ty=ty)(TS:∀j,j<k->¬((nth l j).name=nm/\(nth l j).ty=ty)):ij nm ty l 0=(k:Int):=by
 by_cases h:0<=ij nm ty l 0
 ·obtain⟨j,e,hj,g,f⟩:=xQ nm ty l 0 h;have e:ij nm ty l 0=0+(j:Int):=e;rcases Nat.lt_trichotomy j k with c|c|c
  ·exact(TS j c g).elim
  ·omega
  ·exact(f k c Ut).elim
 ·exact(DX nm ty l 0 (by show ij nm ty l 0<0;omega) k hk Ut).elim
def QR{ty:Int}{l:List bD}(TS:∀j,j<l.length->¬((nth l j).name=nm/\(nth l j).ty=ty)):ij nm ty l 0=-1:=by
 rcases Jj nm ty l 0 (Int.le_refl 0)with e|⟨a,b⟩
 ·exact e
 ·obtain⟨j,e,hj,g,f⟩:=xQ nm ty l 0 a;exact(TS j hj g).elim
def FH{P:TO}{f:FuncId}{args:TE}{s L:TD}{B:TH}{K:TB}{r0:AV}(hc:ab P f args s fun r l=>r=r0/\l=s)(hs:∀i r,aA s i=some r->aA L i=some r)(ha:aX (fun i=>(ids s).contains i) args=true)(Tx:∀i r,aA s i=some r->aX (fun i=>(ids s).contains i) r.cells=true)(hn:(ids s).Nodup)(k:K r0 ⟨B,L⟩)(h0:aU P f=true:=by exact dv):fa P (.raw (.func (.func f) #[] #[])) args ⟨B,L⟩ K:=by
 refine nQ h0 fun w vs h1 h3=>?_
 refine(xT (H:=⟨B,L⟩) (K:=fun r H'=>r=r0/\∃l',H'=⟨B,l'⟩/\∀i,aA l' i=aA L i) hc hs ha Tx (fun r l' ⟨e1,e2⟩=>⟨fun i s' W0=>?_,by rw[e2];exact hn,e1,_,rfl,fun i=>?_⟩) h1 h3).mono ?_
 ·subst e2;exact .inl (rX W0)
 ·subst e2;rw[ux _ _ _ (fun _ _ _=>trivial) hn];cases e:aA l' i with
  |none=>rfl
  |some x=>rw[hs i x e];rfl
 ·rintro e W ⟨v,r,H',w',rfl,rfl,⟨rfl,l',rfl,U6⟩,g1,g2,g3⟩;exact⟨v,_,⟨B,L⟩,w',rfl,rfl,k,BE U6 g1,g2,{ g3 with base:=g3.base }⟩
theorem Hy{p:af}{node:Int}(hl:∀b,(au p b).l.length<=300):∀(n:Nat) (b:Int) (vars r:List bD),lB p node n b vars=some r->r.length<=vars.length+300*n
 |0,b,vars,r,h=>by cases h
 |n+1,b,vars,r,h=>by
  have ih:=Hy (node:=node) hl n;have aF:∀(l:TG) (vs r:List bD),pi (lB p node n) vs l=some r->r.length<=vs.length+300*n:=fun l=>by
   induction l with
   |nil=>intro vs r h;cases h
   |cons b l ihl=>
    intro vs r h;unfold pi at h;cases e:lB p node n b vs with
    |none=>rw[e]at h;exact ihl vs r h
    |some R=>rw[e]at h;cases h;exact ih b vs _ e
  have sc:∀(l:TG) (vs r:List bD),pE (lB p node n) p node l vs=some r->r.length<=vs.length+l.length+300*n:=fun l=>by
   induction l with
   |nil=>intro vs r h;cases h
   |cons x l ihl=>
    intro vs r h;have Zg:(lV p x vs).length<=vs.length+1:=by unfold lV;split<;>simp
    unfold pE at h;simp only[List.length_cons];split at h
    ·cases h;omega
    ·cases e:(if(au p x).kind=15\/(au p x).kind=16 then pi (lB p node n) (lV p x vs) ((au p x).l.drop 1)else none)with
     |none=>rw[e]at h;have:=ihl _ r h;omega
     |some R=>
      rw[e]at h;cases h;split at e
      ·have:=aF _ _ _ e;omega
      ·cases e
  have:=sc _ _ _ h;have:=hl b;omega
end Go.Gd
namespace Go.Proofs.YtjpcgmjaipfgdaaGreatDoor
open Go Go.Gd Tryz
theorem BV{p:af}{node:Int}{n:Nat}{T B:Nat}(hw:∀b s,0<=b->b.toNat<B->bW p.aa.nodes b=18->kU s<=1000000->s.1.length<=T->kU (jg p node n b s).2<=1000000):∀(l:TG) (s:VS),(∀b∈l,0<=b/\b.toNat<B/\bW p.aa.nodes b=18)->kU s<=1000000->s.1.length<=T->kU (kI (jg p node n) l s).2<=1000000/\((kI (jg p node n) l s).1=false->(kI (jg p node n) l s).2.1=s.1)
 |[],s,_,h,_=>⟨h,fun _=>rfl⟩
 |b::l,s,hl,h,h1=>by
  obtain⟨b0,b1,b2⟩:=hl b jE;have hb:=hw b s b0 b1 b2 h h1;rw[D3];by_cases e:(jg p node n b s).1=true
  ·rw[if_pos e];exact⟨hb,fun h=>by cases h⟩
  ·rw[if_neg e];have e1:=FW (Bool.not_eq_true _ ▸ e);have:=BV hw l (jg p node n b s).2 (fun b hb=>hl b (by simp[hb])) hb (by rw[e1];exact h1);exact⟨this.1,fun h=>(this.2 h).trans e1⟩
theorem B4{p:af}(h:pP p)(node:Int):∀(n:Nat) (b:Int) (s:VS),0<=b->b.toNat<p.aa.nodes.length->bW p.aa.nodes b=18->kU s<=1000000->s.1.length+300*b.toNat<=900000->kU (jg p node n b s).2<=1000000
 |0,b,s,_,_,_,ht,_=>ht
 |n+1,b,s,h0,hl,hk,ht,h1=>by
  have sh:=h.aa.shape b.toNat hl;have Zf:=yk h b;have sc:∀(l:TG) (t:VS),(∀x∈l,x∈(au p b).l)->kU t<=1000000->t.1.length+l.length<=s.1.length+300->kU (mL (jg p node n) p node l t).2<=1000000:=fun l=>by
   induction l with
   |nil=>intro t _ g _;exact g
   |cons x l ih=>
    intro t hx g g1;have hxb:=sh.2.1 x (hx x jE);have XW:x.toNat<p.aa.nodes.length:=jB;have shx:=h.aa.shape x.toNat XW;simp only[List.length_cons]at g1;have Ug:∀y∈l,y∈(au p b).l:=fun y hy=>hx y (by simp[hy])
    unfold mL;split
    ·exact g
    split
    ·exact ih _ Ug (G3 _ _ g jB) (by show(t.1++[_]).length+_<=_;simp;omega)
    split
    ·rename_i kb;have Un:∀y∈(au p x).l.drop 1,0<=y/\y.toNat<x.toNat/\bW p.aa.nodes y=18:=fun y hy=>by
      have Ye:y∈(nth p.aa.nodes x.toNat).l:=List.mem_of_mem_drop hy;have Zh:=shx.2.1 y Ye;refine⟨Zh.1,Zh.2,?_⟩;have hy:y∈(nth p.aa.nodes x.toNat).l.drop 1:=hy;rcases kb with kb|kb
      ·obtain⟨a,c,_,hb,hl|⟨d,hl,hd⟩⟩:=shx.1.lw kb
       ·rw[hl]at hy;simp at hy;subst hy;exact hb
       ·rw[hl]at hy;simp at hy;rcases hy with rfl|rfl
        ·exact hb
        ·exact hd
      ·obtain⟨a,c,hl,_,hb⟩:=shx.1.dZ kb;rw[hl]at hy;simp at hy;subst hy;exact hb
     have YB:=BV (p:=p) (node:=node) (n:=n) (T:=s.1.length+300) (B:=x.toNat) (fun c u c0 c1 c2 c3 c4=>B4 h node n c u c0 jB c2 c3 jB) ((au p x).l.drop 1) t Un g jB;split
     ·exact YB.1
     ·rename_i e;have e1:=YB.2 (Bool.not_eq_true _ ▸ e);exact ih _ Ug YB.1 (by rw[e1];omega)
    ·exact ih _ Ug g jB
  have:=sc (au p b).l s (fun x hx=>hx) ht jB;unfold jg;split
  ·exact this
  ·rw[Rr];exact this
abbrev sU:TE:=[.pt 3 0 0 0,.pt 1 0 0 0,.pt 2 0 0 0,.pt 7 0 0 0]
def fE(p:af)(node:Int)(s:VS):TD:=[(1,.var 32 (cd p)),(2,.var 3 [rI node]),(3,.var 184 [.rs 4 (s.1.length+s.2.length) 3 s.1.length]),(4,.aG 258 3 ((s.1++s.2).map lh)),(7,.var 178 [.dP 221 sU])]
attribute [go_sem] fE
def NF{p:af}(node:Int)(w:Int->VS->Bool×VS)(L:TG)(s0:VS)(I:VS->Prop)(hL:L.length<=300)(hI0:I s0)
  (hw:∀b∈L,∀s,I s->ab prog 221 (rI b::sU) (fE p node s) (fun r l'=>r=rB (w b s).1/\l'=fE p node (w b s).2)) (hI:∀b∈L,∀s,I s->(w b s).1=false->I (w b s).2) :
  ab prog 246 [aO eI 1 L,.dP 221 sU] (fE p node s0) (fun r l'=>r=rI (ql w L s0 0)/\l'=fE p node (kI w L s0).2):=by
 suffices key:∀(sR:VS) (iR:Int),sR=(kI w L s0).2->iR=ql w L s0 0->ab prog 246 [aO eI 1 L,.dP 221 sU] (fE p node s0) (fun r l'=>r=rI iR/\l'=fE p node sR) from key _ _ rfl rfl
 intro sR iR XS hiR;refine aM func246 ntmps246 ?_;refine S ?_
 (repeat' (first|refine aq fun K hK=>?_|refine ap ?_|(refine hK _ _ ?_;clear hK K)|(refine ao ?_ ?_<;>intro hc<;>try exact jz)|refine ar ?_|exact jI|(clear hK K)))
 have TX:=hK;clear hK;refine dV (S:=Nat×VS) [(4,2),(8,11)] (fun t=>t.1<=L.length/\I t.2/\ql w (L.drop t.1) t.2 t.1=iR/\(kI w (L.drop t.1) t.2).2=sR) (fun t=>[(8,rI t.1)]) (fun t=>⟨[1,2,3,4,7],fE p node t.2⟩) (fun t=>L.length-t.1) (0,s0) ⟨Nat.zero_le _,hI0,hiR.symm,XS.symm⟩ (dS jD cv) ?_;rintro⟨k,s⟩ ⟨hk,hIs,h1,h2⟩ Kr TR;simp only at hk hIs h1 h2 ⊢;by_cases O':k<L.length
 ·have Xq:=hw _ (fg O') s hIs;have hIk:=hI _ (fg O') s hIs;rw[kP O',Lo]at h1;rw[kP O',D3]at h2;generalize YI:nth L k=x at*;generalize w x s=r at*;cases hr:r.1 with
  |true=>
   rw[if_pos hr]at h1 h2;simp only at h1 h2;subst h1 h2;rw[hr]at Xq;refine S ?_
   (have W:=YI;repeat' (first|refine aq fun K hK=>?_|refine ap ?_|(refine hK _ _ ?_;clear hK K)|(refine ao ?_ ?_<;>intro hc<;>try exact jz)|(refine cl Xq ?_)|refine ar ?_|exact jI|(clear hK K)))
   (refine bV [.tmp 4] ?_ ?_<;>(try simp only[go_sem]))
  |false=>
   rw[if_neg (by rw[hr];decide)]at h1 h2;rw[hr]at Xq;refine S ?_
   (have W:=YI;repeat' (first|refine aq fun K hK=>?_|refine ap ?_|(refine hK _ _ ?_;clear hK K)|(refine ao ?_ ?_<;>intro hc<;>try exact jz)|(refine cl Xq ?_)|refine ar ?_|exact jI|(clear hK K)))
   refine TR _ _ (eu (k+1,r.2) ⟨by show k+1<=L.length;omega,hIk hr,h1,h2⟩ (by show L.length-(k+1)<L.length-k;omega) jD cv)
 ·have X0:k=L.length:=jB;subst X0;rw[List.drop_length]at h1 h2;have h1:iR=-1:=h1.symm;have h2:sR=s:=h2.symm;subst h1 h2;refine S ?_
  (repeat' (first|refine aq fun K hK=>?_|refine ap ?_|(refine hK _ _ ?_;clear hK K)|(refine ao ?_ ?_<;>intro hc<;>try exact jz)|refine TX _ _ ?_|refine ar ?_|exact jI|(clear hK K)))
  (refine bV [.tmp 4] ?_ ?_<;>(try simp only[go_sem]))
def J5{p:af}(node:Int)(w:Int->VS->Bool×VS)(L:TG)(s0:VS)(I:VS->Prop)(hL:L.length<=300)(hI0:I s0)
  (hw:∀b∈L,∀s,I s->ab prog 221 (rI b::sU) (fE p node s) (fun r l'=>r=rB (w b s).1/\l'=fE p node (w b s).2)) (hI:∀b∈L,∀s,I s->(w b s).1=false->I (w b s).2) :
  ab prog 222 [aO eI 1 L,.dP 221 sU] (fE p node s0) (fun r l'=>r=rB (kI w L s0).1/\l'=fE p node (kI w L s0).2):=by
 have hi:=NF node w L s0 I hL hI0 hw hI;rw[DA w L s0 0 jB];generalize ql w L s0 0=i at*;generalize (kI w L s0).2=sR at*;refine aM func222 ntmps222 ?_;refine S ?_
 (repeat' (first|refine aq fun K hK=>?_|refine ap ?_|(refine hK _ _ ?_;clear hK K)|(refine ao ?_ ?_<;>intro hc<;>try exact jz)|refine cm (hi) ?_|refine ar ?_|exact jI|(clear hK K)))
 (refine bV [.tmp 4] ?_ ?_<;>(try simp only[go_sem]))
theorem E5{p:af}(h:pP p)(node:Int):∀(n:Nat) (b:Int) (s:VS),0<=b->b.toNat<p.aa.nodes.length->b.toNat<n->bW p.aa.nodes b=18->kU s<=1000000->s.1.length+300*b.toNat<=900000->
  ab prog 221 (rI b::sU) (fE p node s) (fun r l'=>r=rB (jg p node n b s).1/\l'=fE p node (jg p node n b s).2)
 |0,b,s,h0,hl,hn,hk,ht,h1=>by omega
 |n+1,b,s,h0,hl,hn,hk,ht,h1=>by
  have ih:=E5 h node n;have sh:=h.aa.shape b.toNat hl;have Yg:=sh.1.block hk;have Vc:=sh.2.1;have Wi:=h.types;have UM:=h.slots;have Zf:=yk h b;have haf:=h.aa.many;have key:∀(rr:Bool×VS) (sR:VS) (bR:Bool),mL (jg p node n) p node (au p b).l s=rr->bR=rr.1->sR=(if rr.1=true then rr.2 else oS s.1.length rr.2)->ab prog 221 (rI b::sU) (fE p node s) (fun r l'=>r=rB bR/\l'=fE p node sR):=by
   intro rr sR bR hrr Yn XS;have Z6:(au p b).l=(nth p.aa.nodes b.toNat).l:=rfl;rw[Z6]at hrr Zf;generalize hL:(nth p.aa.nodes b.toNat).l=L at*;unfold kU at ht;refine aM func221 ntmps221 ?_;refine S ?_
   (have W:=hL;repeat' (first|refine aq fun K hK=>?_|refine ap ?_|(refine hK _ _ ?_;clear hK K)|(refine ao ?_ ?_<;>intro hc<;>try exact jz)|refine ar ?_|exact jI|(clear hK K)))
   have TX:=hK;clear hK;refine dV (S:=Nat×VS) [(6,1),(9,2),(21,54)] (fun t=>t.1<=L.length/\kU t.2<=1000000/\t.2.1.length<=s.1.length+t.1/\s.1.length<=t.2.1.length/\mL (jg p node n) p node (L.drop t.1) t.2=rr) (fun t=>[(21,rI t.1),(6,rB false)]) (fun t=>⟨[1,2,3,4,7],fE p node t.2⟩) (fun t=>L.length-t.1) (0,s) ⟨Nat.zero_le _,ht,Nat.le_refl _,Nat.le_refl _,hrr⟩ (dS jD cv) ?_;rintro⟨k,t⟩ ⟨Ue,Zz,htl,htg,Vw⟩ Kr TR;simp only at Ue Zz htl htg Vw ⊢;by_cases O':k<L.length
   rotate_left
   ·have X0:k=L.length:=jB;subst X0;rw[List.drop_length]at Vw;have Vw:rr=(false,t):=Vw.symm;subst Vw;have Yn:bR=false:=Yn;have XS:sR=oS s.1.length t:=XS;have Tx:(oS s.1.length t).1.length=s.1.length:=by unfold oS;simp;omega
    have Vb:(oS s.1.length t).2.length+s.1.length=t.1.length+t.2.length:=by unfold oS;simp;omega
    have Vs:(oS s.1.length t).1++(oS s.1.length t).2=t.1++t.2:=by unfold oS;simp[<-List.append_assoc]
    refine S ?_
    (repeat' (first|refine aq fun K hK=>?_|refine ap ?_|(refine hK _ _ ?_;clear hK K)|(refine ao ?_ ?_<;>intro hc<;>try exact jz)|refine TX _ _ ?_|refine ar ?_|exact jI|(clear hK K)))
    subst Yn XS
    (refine bV [.tmp 6] ?_ ?_<;>(try simp only[go_sem]))
    show[_,_,(3,_),(4,_),_]=[_,_,(3,_),(4,_),_];rw[<-List.map_append,<-List.map_append,Vs,Tx,show s.1.length+(oS s.1.length t).2.length=t.1.length+t.2.length from jB]
   have hx:=Yg _ (fg O');have Zc:=Vc _ (fg O');rw[kP O']at Vw;unfold mL at Vw;generalize YI:nth L k=x at*;have XW:x.toNat<p.aa.nodes.length:=jB;have shx:=h.aa.shape x.toNat XW;have Yc:au p x=nth p.aa.nodes x.toNat:=rfl;rw[Yc]at Vw;by_cases Zi:x=node
   ·rw[if_pos Zi]at Vw;subst Vw;have Yn:bR=true:=Yn;have XS:sR=t:=XS;subst Yn XS;refine S ?_
    (have W:=jA YI Zi;repeat' (first|refine aq fun K hK=>?_|refine ap ?_|(refine hK _ _ ?_;clear hK K)|(refine ao ?_ ?_<;>intro hc<;>try exact jz)|refine al 8 ?_|refine ar ?_|exact jI|(clear hK K)))
    (refine aY [.tmp 6] ?_;try simp only[go_sem])
   rw[if_neg Zi]at Vw;by_cases k10:(nth p.aa.nodes x.toNat).kind=10
   ·rw[if_pos k10]at Vw;obtain⟨a,ha,_⟩:=shx.1.right (.inl k10);have Xi:=shx.2.1 a (by rw[ha];simp);have ha0:nth (nth p.aa.nodes x.toNat).l 0=a:=by rw[ha];rfl
    have ha1:(nth p.aa.nodes x.toNat).l.length=1:=by rw[ha];rfl
    unfold kU at Zz;refine S ?_
    (have W:=jA YI (jA Zi (jA k10 (jA ha0 (ha1))));repeat' (first|refine aq fun K hK=>?_|refine ap ?_|(with_reducible refine gR 9 ?_);refine dE 9 (aW 0 20) mixed ?_|(refine hK _ _ ?_;clear hK K)|(refine ao ?_ ?_<;>intro hc<;>try exact jz)|refine al 8 ?_|refine qG (enc:=lh) t.1 t.2 [⟨(nth p.aa.nodes x.toNat).name,nth p.types a.toNat,nth p.slots x.toNat⟩] ?_|refine ar ?_|exact jI|(clear hK K)))
    have hvo:(⟨(nth p.aa.nodes x.toNat).name,nth p.types a.toNat,nth p.slots x.toNat⟩:bD)=qh p x:=by unfold qh;rw[Yc,ha0]
    rw[hvo];have Xs:=G3 (qh p x) t (T:=1000000) Zz jB;refine TR _ _ (mV [8] (k+1,qF (qh p x) t) ⟨by show k+1<=L.length;omega,Xs,by show(t.1++[_]).length<=s.1.length+(k+1);simp;omega,by show s.1.length<=(t.1++[_]).length;simp;omega,Vw⟩ (by show L.length-(k+1)<L.length-k;omega) rfl Sd ?_ iF);unfold fE qF;simp only[List.length_append,List.length_cons,List.length_nil,List.length_drop,List.map_append,List.map_cons,List.map_nil];rfl
   rw[if_neg k10]at Vw;by_cases kb:(nth p.aa.nodes x.toNat).kind=15\/(nth p.aa.nodes x.toNat).kind=16
   ·rw[if_pos kb]at Vw;have Un:∀y∈(nth p.aa.nodes x.toNat).l.drop 1,0<=y/\y.toNat<x.toNat/\bW p.aa.nodes y=18:=fun y hy=>by
     have Ye:y∈(nth p.aa.nodes x.toNat).l:=List.mem_of_mem_drop hy;have Zh:=shx.2.1 y Ye;refine⟨Zh.1,Zh.2,?_⟩;rcases kb with kb|kb
     ·obtain⟨a,c,_,hb,hl|⟨d,hl,hd⟩⟩:=shx.1.lw kb
      ·rw[hl]at hy;simp at hy;subst hy;exact hb
      ·rw[hl]at hy;simp at hy;rcases hy with rfl|rfl
       ·exact hb
       ·exact hd
     ·obtain⟨a,c,hl,_,hb⟩:=shx.1.dZ kb;rw[hl]at hy;simp at hy;subst hy;exact hb
    have Vp:1<=(nth p.aa.nodes x.toNat).l.length:=by
     rcases kb with kb|kb
     ·obtain⟨a,c,_,hb,hl|⟨d,hl,hd⟩⟩:=shx.1.lw kb<;>(rw[hl];simp)
     ·obtain⟨a,c,hl,_,hb⟩:=shx.1.dZ kb;rw[hl];simp
    have hdt:List.take ((nth p.aa.nodes x.toNat).l.length-1) (List.drop 1 (nth p.aa.nodes x.toNat).l)=List.drop 1 (nth p.aa.nodes x.toNat).l:=List.take_of_length_le jE;have u':=yk h x;rw[Yc]at u';have Yo:=J5 (p:=p) node (jg p node n) ((nth p.aa.nodes x.toNat).l.drop 1) t (fun u=>kU u<=1000000/\u.1.length<=s.1.length+300) jF ⟨Zz,jB⟩
     (fun y hy u hu=>ih y u (Un y hy).1 (by have:=(Un y hy).2.1;omega) (by have:=(Un y hy).2.1;omega) (Un y hy).2.2 hu.1 (by have:=(Un y hy).2.1;have:=hu.2;omega))
     (fun y hy u hu hf=>⟨B4 h node n y u (Un y hy).1 (by have:=(Un y hy).2.1;omega) (Un y hy).2.2 hu.1 (by have:=(Un y hy).2.1;have:=hu.2;omega),by rw[FW hf];exact hu.2⟩)
    have YB:=BV (p:=p) (node:=node) (n:=n) (T:=s.1.length+300) (B:=x.toNat) (fun c u c0 c1 c2 c3 c4=>B4 h node n c u c0 jB c2 c3 jB) ((nth p.aa.nodes x.toNat).l.drop 1) t Un Zz jB;generalize kI (jg p node n) ((nth p.aa.nodes x.toNat).l.drop 1) t=KR at*;cases hKR:KR.1 with
    |true=>
     rw[if_pos hKR]at Vw;subst Vw;have Yn:bR=true:=Yn;have XS:sR=KR.2:=XS;subst Yn XS;rw[hKR]at Yo;refine S ?_
     (have W:=jA YI (jA Zi (jA k10 (hdt)));repeat' (first|refine aq fun K hK=>?_|refine ap ?_|(with_reducible refine gR 10 ?_);refine dC 10 ([3,4],[],[72]) [] (aW 0 16) mixed ?_|(refine hK _ _ ?_;clear hK K)|(refine ao ?_ ?_<;>intro hc<;>try exact jz)|refine al 8 ?_|(refine G0 Yo ?_)|(refine bF ?_ ?_<;>intro hc<;>try exact jz)|refine ar ?_|exact jI|(clear hK K)))
     all_goals(refine aY [.tmp 6] ?_;try simp only[go_sem])
    |false=>
     have VH:=YB.2 hKR;rw[if_neg (by rw[hKR];decide)]at Vw;rw[hKR]at Yo;refine S ?_
     (have W:=jA YI (jA Zi (jA k10 (hdt)));repeat' (first|refine aq fun K hK=>?_|refine ap ?_|(with_reducible refine gR 10 ?_);refine dC 10 ([3,4],[],[72]) [] (aW 0 16) mixed ?_|(refine hK _ _ ?_;clear hK K)|(refine ao ?_ ?_<;>intro hc<;>try exact jz)|refine al 8 ?_|(refine G0 Yo ?_)|(refine bF ?_ ?_<;>intro hc<;>try exact jz)|refine ar ?_|exact jI|(clear hK K)))
     all_goals refine TR _ _ (mV [8] (k+1,KR.2) ⟨by show k+1<=L.length;omega,YB.1,by show KR.2.1.length<=s.1.length+(k+1);rw[VH];omega,by show s.1.length<=KR.2.1.length;rw[VH];omega,Vw⟩ (by show L.length-(k+1)<L.length-k;omega) rfl Sd (by simp only[go_sem];(try rfl)) iF)
   ·rw[if_neg kb]at Vw;have kb1:¬(nth p.aa.nodes x.toNat).kind=15:=fun h=>kb (.inl h)
    have kb2:¬(nth p.aa.nodes x.toNat).kind=16:=fun h=>kb (.inr h)
    refine S ?_
    (have W:=jA YI (jA Zi (jA k10 (jA kb1 (kb2))));repeat' (first|refine aq fun K hK=>?_|refine ap ?_|(with_reducible refine gR 10 ?_);refine dC 10 ([3,4],[],[72]) [] (aW 0 16) mixed ?_|(refine hK _ _ ?_;clear hK K)|(refine ao ?_ ?_<;>intro hc<;>try exact jz)|refine al 8 ?_|refine ar ?_|exact jI|(clear hK K)))
    refine TR _ _ (mV [8] (k+1,t) ⟨by show k+1<=L.length;omega,Zz,by show t.1.length<=s.1.length+(k+1);omega,htg,Vw⟩ (by show L.length-(k+1)<L.length-k;omega) rfl Sd (by simp only[go_sem];(try rfl)) iF)
  have TY:=key _ _ _ rfl rfl rfl;unfold jg;cases e:(mL (jg p node n) p node (au p b).l s).1 with
  |true=>rw[e]at TY;simp only[if_true]at TY ⊢;rw[e];exact TY
  |false=>rw[e]at TY;simp only[Bool.false_eq_true,if_false]at TY ⊢;exact TY
def EK{p:af}(h:pP p)(UX:∀k,k<p.aa.nodes.length->0<=nth p.fn k/\nth p.fn k<p.aa.aw.length)(node:Int)(h0:0<=node)(h1:node.toNat<p.aa.nodes.length):aB prog 171 [.agg (cd p),rI node] (aO lh 3 (gT p node)):=by
 obtain⟨f0,f1⟩:=UX _ h1;have hlf:=h.fn;have haf:=h.aa.many;have XT:(nth p.fn node.toNat).toNat<p.aa.aw.length:=jB;have U4:=o7 h.aa XT;have WE:=h.aa.body _ (fg XT);have hps:=(h.aa.fn _ (fg XT)).2;have Vn:=B1 (p:=p) (node:=node) p.aa.nodes.length (nth p.aa.aw (nth p.fn node.toNat).toNat).body (kv (nth p.aa.aw (nth p.fn node.toNat).toNat).params 0,[]);have V8:=E5 h node p.aa.nodes.length (nth p.aa.aw (nth p.fn node.toNat).toNat).body (kv (nth p.aa.aw (nth p.fn node.toNat).toNat).params 0,[]) U4.1 (by have:=U4.1;have:=U4.2;omega) (by have:=U4.1;have:=U4.2;omega) WE (by unfold kU;rw[xB];simp;omega) (by show(kv _ _).length+_<=_;rw[xB];have:=U4.1;have:=U4.2;omega);unfold gT;simp only at Vn;generalize lB p node p.aa.nodes.length (nth p.aa.aw (nth p.fn node.toNat).toNat).body (kv (nth p.aa.aw (nth p.fn node.toNat).toNat).params 0)=O at*;generalize jg p node p.aa.nodes.length (nth p.aa.aw (nth p.fn node.toNat).toNat).body (kv (nth p.aa.aw (nth p.fn node.toNat).toNat).params 0,[])=R at*;generalize hF:nth p.fn node.toNat=g at*;generalize hG:nth p.aa.aw g.toNat=f at*;refine bG func171 ntmps171 ?_
 (have W:=jA hF hG;repeat' (first|refine aq fun K hK=>?_|refine ap ?_|(with_reducible refine gR 1 ?_);refine dE 1 (aW 0 12) mixed ?_|(refine hK _ _ ?_;clear hK K)|(refine ao ?_ ?_<;>intro hc<;>try exact jz)|refine bx 1 ?_|refine bx 2 ?_|refine al 5 ?_|refine al 3 ?_|(refine bF ?_ ?_<;>intro hc<;>try exact jz)|refine ar ?_|exact jI|(clear hK K)))
 refine jq (dL.gb 4 3 0 258 3 rfl jC rfl rfl) ?_
 (refine S ?_;try exact jI)
 have TX:=hK;clear hK;have Ws:∀k,(kv (f.params.take k) 0).length=min k f.params.length:=fun k=>by rw[xB];simp
 refine dV (S:=Nat) [(7,2),(23,15)] (fun k=>k<=f.params.length) (fun k=>[(23,rI k)]) (fun k=>⟨[],[(1,.var 32 (cd p)),(2,.var 3 [rI node]),(5,.var 181 (fV f)),(3,.var 184 [.rs 4 k 3 k]),(4,.aG 258 3 ((kv (f.params.take k) 0).map lh))]⟩) (fun k=>f.params.length-k) 0 jB (dS rfl cv) ?_;rintro k hk Kr TR;have Vf:(kv (f.params.take k) 0).length=k:=by rw[Ws];omega
 by_cases O':k<f.params.length
 ·(refine S ?_;try exact jI)
  (have W:=Vf;repeat' (first|refine aq fun K hK=>?_|refine ap ?_|(with_reducible refine gR 1 ?_);refine dE 1 (aW 0 12) mixed ?_|(refine hK _ _ ?_;clear hK K)|(refine ao ?_ ?_<;>intro hc<;>try exact jz)|refine al 6 ?_|refine TX _ _ ?_|(refine bF ?_ ?_<;>intro hc<;>try exact jz)|refine ar ?_|exact jI|(clear hK K)))
  refine TR _ _ (mV [6] (k+1) jB (by show f.params.length-(k+1)<f.params.length-k;omega) rfl Sd ?_ iF);show Hp.mk _ [_,_,_,_,_]=Hp.mk _ [_,_,_,_,(4,.aG _ _ ((kv (f.params.take (k+1)) 0).map lh))];rw[tK O',EY,List.map_append];have:((0:Int)+(f.params.take k).length)=(k:Int):=by simp;omega
  rw[this];rfl
 ·have X0:k=f.params.length:=jB;subst X0;rw[List.take_length]at Vf ⊢;generalize kv f.params 0=V at*;rw[<-Vf];cases hR:R.1 with
  |true=>
   cases O with
   |none=>rw[Vn.1]at hR;cases hR
   |some W=>
    have hW:R.2.1=W:=Vn.2;rw[hR]at V8;refine S ?_
    (repeat' (first|refine aq fun K hK=>?_|refine ap ?_|(with_reducible refine gR 1 ?_);refine dE 1 (aW 0 12) mixed ?_|(refine hK _ _ ?_;clear hK K)|(refine ao ?_ ?_<;>intro hc<;>try exact jz)|refine al 7 ?_|(refine cl V8 ?_)|refine TX _ _ ?_|(refine bF ?_ ?_<;>intro hc<;>try exact jz)|refine ar ?_|exact jI|(clear hK K)))
    subst hW;refine fA [.tmp 4] ?_;exact cW.pN R.2.1 R.2.2 rfl (by show some (Row.aG _ _ _)=some (Row.aG _ _ _);rw[List.map_append]) rfl rfl
  |false=>
   cases O with
   |some W=>rw[Vn.1]at hR;cases hR
   |none=>
    rw[hR]at V8;refine S ?_
    (repeat' (first|refine aq fun K hK=>?_|refine ap ?_|(with_reducible refine gR 1 ?_);refine dE 1 (aW 0 12) mixed ?_|(refine hK _ _ ?_;clear hK K)|(refine ao ?_ ?_<;>intro hc<;>try exact jz)|refine al 7 ?_|(refine cl V8 ?_)|refine TX _ _ ?_|(refine bF ?_ ?_<;>intro hc<;>try exact jz)|refine ar ?_|exact jI|(clear hK K)))
    refine fA [.tmp 4] ?_;exact cW.nil _ _
end Go.Proofs.YtjpcgmjaipfgdaaGreatDoor
namespace Go.Proofs.YtjpcgmjaipfgdaaGreatDoor
open Go Go.Gd Tryz Go.Gd.MV
def sE(nm:TI)(v:aj):TD:=[(5,.var 9 [rS nm]),(7,.var 54 (bS v))]
attribute [go_sem] sE Bool.false_and Bool.true_and
def Ft(nm:TI)(v:aj):∀i r,aA (sE nm v) i=some r->aX (fun i=>(ids (sE nm v)).contains i) r.cells=true:=fun i r h=>by
 unfold sE at h;simp only[aA]at h;split at h
 ·cases h;rfl
 ·split at h
  ·cases h;rfl
  ·cases h
def Gu(nm:TI)(v:aj):(ids (sE nm v)).Nodup:=by simp[sE,ids]
def Je{e tl:TD}(Tu:∀i,i<1000->aA e i=none){nm:TI}{v:aj}(h5:aA tl 5=some (.var 9 [rS nm]))(h7:aA tl 7=some (.var 54 (bS v))):∀i r,aA (sE nm v) i=some r->aA (tie e tl) i=some r:=fun i r h=>by
 unfold sE at h;simp only[aA]at h;split at h
 ·rename_i e;subst e;cases h;rw[jO,Tu 5 jC];exact h5
 ·split at h
  ·rename_i e;subst e;cases h;rw[jO,Tu 7 jC];exact h7
  ·cases h
def Qv(nm:TI)(v:aj)(x:bD):ab prog 173 [.agg (lh x),.pt 5 0 0 0,.pt 7 0 0 0] (sE nm v) (fun r l=>r=rB (decide (x.name=nm/\x.ty=v.ty))/\l=sE nm v):=by
 suffices key:∀b,decide (x.name=nm/\x.ty=v.ty)=b->ab prog 173 [.agg (lh x),.pt 5 0 0 0,.pt 7 0 0 0] (sE nm v) (fun r l=>r=rB b/\l=sE nm v) from key _ rfl
 intro b hb;by_cases c1:x.name=nm
 ·by_cases c2:x.ty=v.ty
  ·rw[decide_eq_true ⟨c1,c2⟩]at hb;subst hb;refine aM func173 ntmps173 ?_;refine S ?_
   (have W:=jA c1 c2;repeat' (first|refine aq fun K hK=>?_|refine ap ?_|(refine hK _ _ ?_;clear hK K)|(refine ao ?_ ?_<;>intro hc<;>try exact jz)|refine bx 9 ?_|(refine bF ?_ ?_<;>intro hc<;>try exact jz)|refine ar ?_|exact jI|(clear hK K)))
   (refine aY [.tmp 4] ?_;try simp only[go_sem])
  ·rw[decide_eq_false (fun h=>c2 h.2)]at hb;subst hb;refine aM func173 ntmps173 ?_;refine S ?_
   (have W:=jA c1 c2;repeat' (first|refine aq fun K hK=>?_|refine ap ?_|(refine hK _ _ ?_;clear hK K)|(refine ao ?_ ?_<;>intro hc<;>try exact jz)|refine bx 9 ?_|(refine bF ?_ ?_<;>intro hc<;>try exact jz)|refine ar ?_|exact jI|(clear hK K)))
   (refine aY [.tmp 4] ?_;try simp only[go_sem])
 ·rw[decide_eq_false (fun h=>c1 h.1)]at hb;subst hb;refine aM func173 ntmps173 ?_;refine S ?_
  (have W:=c1;repeat' (first|refine aq fun K hK=>?_|refine ap ?_|(refine hK _ _ ?_;clear hK K)|(refine ao ?_ ?_<;>intro hc<;>try exact jz)|refine bx 9 ?_|(refine bF ?_ ?_<;>intro hc<;>try exact jz)|refine ar ?_|exact jI|(clear hK K)))
  (refine aY [.tmp 4] ?_;try simp only[go_sem])
def F1(nm:TI)(v:aj)(L:List bD)(hL:L.length<=100000):ab prog 172 [aO lh 3 L,.dP 173 [.pt 5 0 0 0,.pt 7 0 0 0]] (sE nm v) (fun r l=>r=rI (ij nm v.ty L 0)/\l=sE nm v):=by
 suffices key:∀z,ij nm v.ty L 0=z->ab prog 172 [aO lh 3 L,.dP 173 [.pt 5 0 0 0,.pt 7 0 0 0]] (sE nm v) (fun r l=>r=rI z/\l=sE nm v) from key _ rfl
 intro z hz;refine aM func172 ntmps172 ?_;refine S ?_
 (repeat' (first|refine aq fun K hK=>?_|refine ap ?_|(refine hK _ _ ?_;clear hK K)|(refine ao ?_ ?_<;>intro hc<;>try exact jz)|(refine bF ?_ ?_<;>intro hc<;>try exact jz)|refine ar ?_|exact jI|(clear hK K)))
 have TX:=hK;clear hK;refine dV (S:=Nat) [(4,2),(8,11)] (fun k=>k<=L.length/\∀j,j<k->¬((nth L j).name=nm/\(nth L j).ty=v.ty)) (fun k=>[(8,rI k)]) (fun _=>⟨[5,7],sE nm v⟩) (fun k=>L.length-k) 0 ⟨Nat.zero_le _,fun j h=>jB⟩ (dS rfl cv) ?_;rintro k ⟨hk,TS⟩ Kr TR;by_cases O':k<L.length
 ·have T0:=Qv nm v (nth L k);by_cases c:(nth L k).name=nm/\(nth L k).ty=v.ty
  ·rw[decide_eq_true c]at T0;have:=ML O' c TS;rw[hz]at this;subst this;refine S ?_
   (have W:=O';repeat' (first|refine aq fun K hK=>?_|refine ap ?_|(refine hK _ _ ?_;clear hK K)|(refine ao ?_ ?_<;>intro hc<;>try exact jz)|(refine cl T0 ?_)|refine TX _ _ ?_|(refine bF ?_ ?_<;>intro hc<;>try exact jz)|refine ar ?_|exact jI|(clear hK K)))
   (refine aY [.tmp 4] ?_;try simp only[go_sem])
  ·rw[decide_eq_false c]at T0;refine S ?_
   (have W:=O';repeat' (first|refine aq fun K hK=>?_|refine ap ?_|(refine hK _ _ ?_;clear hK K)|(refine ao ?_ ?_<;>intro hc<;>try exact jz)|(refine cl T0 ?_)|refine TX _ _ ?_|(refine bF ?_ ?_<;>intro hc<;>try exact jz)|refine ar ?_|exact jI|(clear hK K)))
   exact TR _ _ (eu (k+1) ⟨jB,fun j hj=>by
    by_cases e:j<k
    ·exact TS j e
    ·rw[show j=k from jB];exact c⟩ (by show L.length-(k+1)<L.length-k;omega) rfl cv)
 ·have:=QR (nm:=nm) (ty:=v.ty) (l:=L) fun j hj=>TS j jB
  rw[hz]at this;subst this;refine S ?_
  (have W:=O';repeat' (first|refine aq fun K hK=>?_|refine ap ?_|(refine hK _ _ ?_;clear hK K)|(refine ao ?_ ?_<;>intro hc<;>try exact jz)|refine TX _ _ ?_|(refine bF ?_ ?_<;>intro hc<;>try exact jz)|refine ar ?_|exact jI|(clear hK K)))
  (refine aY [.tmp 4] ?_;try simp only[go_sem])
end Go.Proofs.YtjpcgmjaipfgdaaGreatDoor
namespace Go.Proofs.YtjpcgmjaipfgdaaGreatDoor
open Go Go.Gd Tryz
theorem BQ{p:af}(h:gj p):∀(j i:Nat),j<p.aa.aw.length->i<j->(nth p.aa.aw i).body.toNat<kQ p.aa j
 |0,i,_,h2=>by omega
 |j+1,i,h1,h2=>by
  have hc:=(h.aw j jB).chain.le;have e:kQ p.aa (j+1)=(nth p.aa.aw j).body.toNat+1:=by unfold kQ;rw[jN];rfl
  rw[e];by_cases k:i=j
  ·subst k;omega
  ·have:=BQ h j i jB jB;omega
variable{p:af}
def LF(h:gj p){i j:Nat}(hi:i<p.aa.aw.length)(hj:j<p.aa.aw.length){a:Nat}(h1:kQ p.aa i<=a)(h2:a<=(nth p.aa.aw i).body.toNat)(h3:kQ p.aa j<=a)(h4:a<=(nth p.aa.aw j).body.toNat):i=j:=by
 rcases Nat.lt_trichotomy i j with k|k|k
 ·have:=BQ h j i hj k;omega
 ·exact k
 ·have:=BQ h i j hi k;omega
def te(p:af)(j:Nat)(v:bD):Prop:=0<=v.slot/\v.slot<nth p.size j
def Sj(h:pP p){x:Int}(hx:x.toNat<p.aa.nodes.length)(kb:(nth p.aa.nodes x.toNat).kind=15\/(nth p.aa.nodes x.toNat).kind=16):∀y∈(nth p.aa.nodes x.toNat).l.drop 1,bW p.aa.nodes y=18:=fun y hy=>by
 have shx:=h.aa.shape x.toNat hx;rcases kb with kb|kb
 ·obtain⟨a,c,_,hb,hl|⟨d,hl,hd⟩⟩:=shx.1.lw kb
  ·rw[hl]at hy;simp at hy;subst hy;exact hb
  ·rw[hl]at hy;simp at hy;rcases hy with rfl|rfl
   ·exact hb
   ·exact hd
 ·obtain⟨a,c,hl,_,hb⟩:=shx.1.dZ kb;rw[hl]at hy;simp at hy;subst hy;exact hb
theorem EU{p:af}(h:gj p){j:Nat}(hj:j<p.aa.aw.length)(node:Int):∀(n:Nat) (b:Int) (vars R:List bD),nA p j ⟨b,0⟩->(∀v∈vars,te p j v)->lB p node n b vars=some R->(∀v∈R,te p j v)/\kQ p.aa j<=node.toNat/\node.toNat<=(nth p.aa.aw j).body.toNat
 |0,b,vars,R,_,_,e=>by cases e
 |n+1,b,vars,R,hb,hv,e=>by
  have ih:=EU h hj node n;have hf:=h.aw j hj;have aF:∀(l:TG) (vs R:List bD),(∀y∈l,nA p j ⟨y,0⟩)->(∀v∈vs,te p j v)->pi (lB p node n) vs l=some R->(∀v∈R,te p j v)/\kQ p.aa j<=node.toNat/\node.toNat<=(nth p.aa.aw j).body.toNat:=fun l=>by
   induction l with
   |nil=>intro vs R _ _ e;cases e
   |cons y l ihl=>
    intro vs R hl V2 e;unfold pi at e;cases e1:lB p node n y vs with
    |none=>rw[e1]at e;exact ihl vs R (fun z hz=>hl z (by simp[hz])) V2 e
    |some R'=>rw[e1]at e;cases e;exact ih y vs _ (hl y jE) V2 e1
  have sc:∀(l:TG) (vs R:List bD),(∀x∈l,x∈xd p b)->(∀v∈vs,te p j v)->pE (lB p node n) p node l vs=some R->(∀v∈R,te p j v)/\kQ p.aa j<=node.toNat/\node.toNat<=(nth p.aa.aw j).body.toNat:=fun l=>by
   induction l with
   |nil=>intro vs R _ _ e;cases e
   |cons x l ihl=>
    intro vs R hx V2 e;obtain⟨x0,x1,x2,x3⟩:=hb.aF h (by omega:(0:Int)<=j) jB (hx x jE);have x1:x.toNat<b.toNat:=x1;have x2:kQ p.aa j<=x.toNat:=by rw[Int.toNat_natCast]at x2;exact x2
    have WI:b.toNat<=(nth p.aa.aw j).body.toNat:=by have:=hb.hi;rw[Int.toNat_natCast]at this;exact this
    have U4:=o7 h.ok.aa hj;have XW:x.toNat<p.aa.nodes.length:=by have:=U4.1;have:=U4.2;omega
    have Zg:∀v∈lV p x vs,te p j v:=fun v T'=>by
     unfold lV at T';split at T'
     ·rename_i k10;rcases List.mem_append.1 T' with T'|T'
      ·exact V2 v T'
      ·rw[List.mem_singleton]at T';subst T';have k10:(nth p.aa.nodes x.toNat).kind=10:=k10;exact hf.all x.toNat x2 jB (by unfold jm;omega)
     ·exact V2 v T'
    unfold pE at e;split at e
    ·rename_i ex;cases e;rw[<-ex];exact⟨V2,x2,jB⟩
    ·cases e1:(if(au p x).kind=15\/(au p x).kind=16 then pi (lB p node n) (lV p x vs) ((au p x).l.drop 1)else none)with
     |none=>rw[e1]at e;exact ihl _ R (fun y hy=>hx y (by simp[hy])) Zg e
     |some R'=>
      rw[e1]at e;cases e;split at e1
      ·rename_i kb;refine aF _ _ _ (fun y hy=>?_) Zg e1;have Ye:y∈(nth p.aa.nodes x.toNat).l:=List.mem_of_mem_drop hy;have Zh:=(h.ok.aa.shape x.toNat XW).2.1 y Ye;have Tu:=hf.chain.closed x.toNat x2 jB y Ye;exact⟨Zh.1,by rw[Int.toNat_natCast];exact Tu,by rw[Int.toNat_natCast];show y.toNat<=_;omega,Sj h.ok XW kb y hy,Int.le_refl _,by show(0:Int)<=_;omega⟩
      ·cases e1
  exact sc (au p b).l vars R (fun x hx=>hx) hv e
theorem D9{z:Int}:∀(l:List bK) (i:Int),0<=i->i+l.length<=z->∀v∈kv l i,0<=v.slot/\v.slot<z
 |[],i,_,_,v,hv=>by cases hv
 |x::l,i,h0,h1,v,hv=>by
  simp only[List.length_cons]at h1;simp only[kv,List.mem_cons]at hv;rcases hv with rfl|hv
  ·exact⟨h0,by show i<z;omega⟩
  ·exact D9 l (i+1) jB jB v hv
def Pt(h:gj p)(UX:∀k,k<p.aa.nodes.length->0<=nth p.fn k/\nth p.fn k<p.aa.aw.length){node:Int}(h1:node.toNat<p.aa.nodes.length){j:Nat}(hj:j<p.aa.aw.length)(h2:kQ p.aa j<=node.toNat)(h3:node.toNat<=(nth p.aa.aw j).body.toNat):∀v∈gT p node,te p j v:=by
 obtain⟨f0,f1⟩:=UX _ h1;have XT:(nth p.fn node.toNat).toNat<p.aa.aw.length:=jB;have U4:=o7 h.ok.aa XT;have hf:=h.aw _ XT;unfold gT;cases e:lB p node p.aa.nodes.length (nth p.aa.aw (nth p.fn node.toNat).toNat).body (kv (nth p.aa.aw (nth p.fn node.toNat).toNat).params 0)with
 |none=>intro v hv;cases hv
 |some R=> obtain⟨a,b,c⟩:=EU h XT node _ _ _ R ⟨U4.1,by rw[Int.toNat_natCast];exact hf.chain.le,by rw[Int.toNat_natCast];exact Nat.le_refl _,h.ok.aa.body _ (fg XT),Int.le_refl _,by show(0:Int)<=_;omega⟩ (D9 _ _ (Int.le_refl _) (by have:=hf.uH;omega)) e;rw[LF h hj XT h2 h3 b c];exact a
def DM(h:pP p)(UX:∀k,k<p.aa.nodes.length->0<=nth p.fn k/\nth p.fn k<p.aa.aw.length){node:Int}(h1:node.toNat<p.aa.nodes.length):(gT p node).length<=100000:=by
 obtain⟨f0,f1⟩:=UX _ h1;have XT:(nth p.fn node.toNat).toNat<p.aa.aw.length:=jB;have hps:=(h.aa.fn _ (fg XT)).2;have hm:=h.aa.many;unfold gT;cases e:lB p node p.aa.nodes.length (nth p.aa.aw (nth p.fn node.toNat).toNat).body (kv (nth p.aa.aw (nth p.fn node.toNat).toNat).params 0)with
 |none=>exact Nat.zero_le _
 |some R=> have:=Hy (yk h) _ _ _ _ e;rw[xB]at this;show R.length<=_;omega
end Go.Proofs.YtjpcgmjaipfgdaaGreatDoor
namespace Go.Proofs.YtjpcgmjaipfgdaaGreatDoor
open Go Go.Gd Tryz Go.Gd.MV
def gh(C:aI)(m:MV):Int:=(nth (m.dB C).calls ((m.dB C).calls.length-1)).node
def iy(p:af)(C:aI)(m:MV)(nm:TI)(v:aj):Option MV:=
 if(m.status=2\/m.status=3)\/lQ v=false\/v.ty=4 then none
 else if ij nm v.ty (gT p (gh C m)) 0<0 then none
 else some (rJ m (nth (gT p (gh C m)) (ij nm v.ty (gT p (gh C m)) 0).toNat).slot.toNat v)
section
variable {p:af}{C:aI}{m:MV}{N:NM}{e:TD}(hR:bJ p C m N e)(hk:um C m)(nm:TI)(v:aj)
include hR hk
theorem Rf(h:(m.status=2\/m.status=3)\/lQ v=false\/v.ty=4):cU prog 116 [.agg (cd p),mP N,rS nm,.agg (bS v)] e (rB false) e:=by
 have Vg:=xM hR hk;have Tu:=hR.ok.low;have XU:=vm v;have P':(m.dB C).status=m.status:=rfl;refine⟨?_,hR.ok,hR.ok,fun _ h=>h,?_⟩;rotate_left
 ·simp only[aX,AV.all,fW hR.root,Bool.and_self,Bool.and_true,bS];rfl
 rw[<-P']at h;generalize m.dB C=Sh at*;clear P';have hq:(Sh.status=2/\True/\True)\/(¬Sh.status=2/\Sh.status=3/\True)\/(¬Sh.status=2/\¬Sh.status=3/\lQ v=false)\/(¬Sh.status=2/\¬Sh.status=3/\(lQ v=true/\v.ty=4)):=by
  by_cases a:Sh.status=2
  ·exact .inl ⟨a,trivial,trivial⟩
  by_cases b:Sh.status=3
  ·exact .inr (.inl ⟨a,b,trivial⟩)
  cases c:lQ v
  ·exact .inr (.inr (.inl ⟨a,b,rfl⟩))
  ·refine .inr (.inr (.inr ⟨a,b,rfl,?_⟩));rcases h with h|h|h
   ·omega
   ·rw[c]at h;cases h
   ·exact h
 rcases hq with⟨q1,q2,q3⟩|⟨q1,q2,q3⟩|⟨q1,q2,q3⟩|⟨q1,q2,q3,q4⟩
 all_goals try rw[q3]at XU
 all_goals
  refine aM (L:=ids e) func116 ntmps116 ?_ (hL:=rfl);generalize hB:ids e=B;refine eO ?_
  (have W:=jA Tu (jA q1 (q2));repeat' (first|refine aq fun K hK=>?_|refine ap ?_|(with_reducible refine gR 4 ?_);refine dE 4 (aW 0 12) mixed ?_|(with_reducible refine gR 6 ?_);refine dE 6 (aW 0 13) mixed ?_|(refine hK _ _ ?_;clear hK K)|(refine ao ?_ ?_<;>intro hc<;>try exact jz)|refine aT 4 ?_|refine aT 5 ?_|refine aT 7 ?_|refine cH 9 ?_|refine cp (XU) ?_|refine cq (XU) ?_|(refine⟨rB false,?_⟩;refine S ?_)|refine cT Vg ?_|(refine bF ?_ ?_<;>intro hc<;>try exact jz)|refine ar ?_|exact jI|(clear hK K)))
  try(exact dY hB hR.ok hR.ok (tl:=[(4,.var 32 (cd p)),(5,.var 9 [rS nm]),(7,.var 54 (bS v)),(9,.var 45 (lI Sh))]) (fun _=>rfl) (dm jC (dm jC (dm jC (dm jC dD)))) [.tmp 8])
theorem Ex(hs:gj p)(UX:∀k,k<p.aa.nodes.length->0<=nth p.fn k/\nth p.fn k<p.aa.aw.length)(hM:MI p C m)(h2:¬(m.status=2\/m.status=3)):1<=m.calls.length/\(m.dB C).calls.length=m.calls.length/\0<=gh C m/\(gh C m).toNat<p.aa.nodes.length/\∀x∈gT p (gh C m),0<=x.slot/\x.slot<m.ah.slots.length:=by
 obtain⟨h1,_,_,_⟩:=hM.ah fun e=>h2 (.inl e)
 have hl:(m.dB C).calls.length=m.calls.length:=by show((List.range m.calls.length).map _).length=_;simp
 have hn:nth (m.dB C).calls ((m.dB C).calls.length-1)=m.spot C (m.calls.length-1):=by rw[hl];show nth ((List.range m.calls.length).map (m.spot C)) (m.calls.length-1)=_;rw[fP jF];simp
 have Xx:=S1 hM (k:=m.calls.length-1) jB;have ht:gh C m=(m.spot C (m.calls.length-1)).node:=by unfold gh;rw[hn]
 have f0:=Xx.f0;have f1:=Xx.f1;refine⟨h1,hl,by rw[ht];exact Xx.n0,by rw[ht];exact Xx.n1,fun x hx=>?_⟩;rw[ht]at hx;obtain⟨a,b⟩:=Pt hs UX Xx.n1 (j:=(m.spot C (m.calls.length-1)).fn.toNat) jB Xx.in_.1 Xx.in_.2 x hx;exact⟨a,by have:=Xx.sl;show x.slot<((m.spot C (m.calls.length-1)).slots.length:Int);omega⟩
theorem Pr(hs:gj p)(UX:∀k,k<p.aa.nodes.length->0<=nth p.fn k/\nth p.fn k<p.aa.aw.length)(hM:MI p C m)(h2:¬(m.status=2\/m.status=3))(hm:lQ v=true)(h4:¬v.ty=4)(hf:ij nm v.ty (gT p (gh C m)) 0<0):cU prog 116 [.agg (cd p),mP N,rS nm,.agg (bS v)] e (rB false) e:=by
 have Vg:=xM hR hk;have Tu:=hR.ok.low;have XU:=vm v;rw[hm]at XU;obtain⟨h1,hl,n0,n1,_⟩:=Ex hR hk hs UX hM h2;have hvc:=EK hs.ok UX (gh C m) n0 n1;have X7:=DM hs.ok UX n1;have Wa:=F1 nm v (gT p (gh C m)) jB;generalize ij nm v.ty (gT p (gh C m)) 0=z at*;generalize gT p (gh C m)=V at*;have hc8:m.calls.length<=1000:=by have:=hk.1;omega
 refine⟨?_,hR.ok,hR.ok,fun _ h=>h,?_⟩;rotate_left
 ·simp only[aX,AV.all,fW hR.root,Bool.and_self,Bool.and_true,bS];rfl
 have q1:¬(m.dB C).status=2:=fun e=>h2 (.inl e)
 have q2:¬(m.dB C).status=3:=fun e=>h2 (.inr e)
 have e1:(((m.dB C).calls.length:Int)-1).toNat=(m.dB C).calls.length-1:=jB;have g1:(m.dB C).calls.length-1<(m.dB C).calls.length:=jB;have g2:0<=((m.dB C).calls.length:Int)-1:=jB;have et:(nth (m.dB C).calls ((m.dB C).calls.length-1)).node=gh C m:=rfl;have hz:¬z >= 0:=jB;generalize gh C m=a at*;generalize m.dB C=Sh at*;refine aM (L:=ids e) func116 ntmps116 ?_ (hL:=rfl);generalize hB:ids e=B;refine eO ?_
 (have W:=jA Tu (jA q1 (jA q2 (jA h4 (jA e1 (jA g1 (jA g2 (jA et (hz))))))));repeat' (first|refine aq fun K hK=>?_|refine ap ?_|(with_reducible refine gR 4 ?_);refine dE 4 (aW 0 12) mixed ?_|(with_reducible refine gR 6 ?_);refine dE 6 (aW 0 13) mixed ?_|(refine hK _ _ ?_;clear hK K)|(refine ao ?_ ?_<;>intro hc<;>try exact jz)|refine aT 4 ?_|refine aT 5 ?_|refine aT 7 ?_|refine cH 9 ?_|refine cp (XU) ?_|refine cq (XU) ?_|refine cp (hvc) ?_|(refine FH Wa (Je Tu rfl rfl) rfl (Ft nm v) (Gu nm v) ?_;try refine S ?_)|(refine⟨rB false,?_⟩;refine S ?_)|refine cT Vg ?_|(refine bF ?_ ?_<;>intro hc<;>try exact jz)|refine ar ?_|exact jI|(clear hK K)))
 exact dY hB hR.ok hR.ok (tl:=[(4,.var 32 (cd p)),(5,.var 9 [rS nm]),(7,.var 54 (bS v)),(9,.var 45 (lI Sh))]) (fun _=>rfl) (dm jC (dm jC (dm jC (dm jC dD)))) [.tmp 8]
theorem EO(hs:gj p)(UX:∀k,k<p.aa.nodes.length->0<=nth p.fn k/\nth p.fn k<p.aa.aw.length)(hM:MI p C m)(h2:¬(m.status=2\/m.status=3))(hm:lQ v=true)(h4:¬v.ty=4)(hf:¬ij nm v.ty (gT p (gh C m)) 0<0) :
  cU prog 116 [.agg (cd p),mP N,rS nm,.agg (bS v)] e (rB true) (bh e (hn 1 N.ah.c) (.aG 54 3 ((m.ah.slots.set (nth (gT p (gh C m)) (ij nm v.ty (gT p (gh C m)) 0).toNat).slot.toNat v).map bS)))/\
   bJ p C (rJ m (nth (gT p (gh C m)) (ij nm v.ty (gT p (gh C m)) 0).toNat).slot.toNat v) N (bh e (hn 1 N.ah.c) (.aG 54 3 ((m.ah.slots.set (nth (gT p (gh C m)) (ij nm v.ty (gT p (gh C m)) 0).toNat).slot.toNat v).map bS))):=by
 have Vg:=xM hR hk;have Tu:=hR.ok.low;have XU:=vm v;rw[hm]at XU;obtain⟨h1,hl,n0,n1,UM⟩:=Ex hR hk hs UX hM h2;have hvc:=EK hs.ok UX (gh C m) n0 n1;have X7:=DM hs.ok UX n1;have Wa:=F1 nm v (gT p (gh C m)) jB;obtain⟨k0,ek,TZ,_,_⟩:=xQ nm v.ty (gT p (gh C m)) 0 (by show 0<=ij nm v.ty (gT p (gh C m)) 0;omega);have ek:ij nm v.ty (gT p (gh C m)) 0=0+(k0:Int):=ek;rw[Int.zero_add]at ek;obtain⟨Xt,hs2⟩:=UM _ (fg TZ);rw[ek,Int.toNat_natCast];rw[ek]at Wa;clear hf ek UM;have T4:=hk;obtain⟨_,_,s3,_⟩:=T4;have Vv:=s3 (m.calls.length-1) jB;have Vv:m.ah.slots.length<=1000:=by have:(nth m.calls (m.calls.length-1)).slots.length=m.ah.slots.length:=rfl;omega
 obtain⟨kk,ekk⟩:∃kk:Nat,(nth (gT p (gh C m)) k0).slot=(kk:Int):=⟨(nth (gT p (gh C m)) k0).slot.toNat,jB⟩;rw[ekk,Int.toNat_natCast];obtain⟨V2,Uz⟩:=OK hR h2 h1 kk jB Vv v;refine⟨?_,Uz⟩;have k2:=Uz.ok;have hkp:=V2.aZ;have u':∀X Y,CM ([hn 1 N.ah.c],X,Y) e (bh e (hn 1 N.ah.c) (.aG 54 3 ((m.ah.slots.set kk v).map bS))):=fun X Y j hj _=>.inl (by rw[bO,if_neg];rintro rfl;simp at hj)
 generalize bh e (hn 1 N.ah.c) (.aG 54 3 ((m.ah.slots.set kk v).map bS))=E at*;clear Uz;generalize gT p (gh C m)=V at*;have hc8:m.calls.length<=1000:=by have:=hk.1;omega
 refine⟨?_,hR.ok,k2,hkp,?_⟩;rotate_left
 ·simp only[aX,AV.all,fW hR.root,Bool.and_self,Bool.and_true,bS];rfl
 have q1:¬(m.dB C).status=2:=fun e=>h2 (.inl e)
 have q2:¬(m.dB C).status=3:=fun e=>h2 (.inr e)
 have e1:(((m.dB C).calls.length:Int)-1).toNat=(m.dB C).calls.length-1:=jB;have g1:(m.dB C).calls.length-1<(m.dB C).calls.length:=jB;have g2:0<=((m.dB C).calls.length:Int)-1:=jB;have et:(nth (m.dB C).calls ((m.dB C).calls.length-1)).node=gh C m:=rfl;have hz:(k0:Int) >= 0:=jB;generalize gh C m=a at*;generalize m.dB C=Sh at*;refine aM (L:=ids e) func116 ntmps116 ?_ (hL:=rfl);generalize hB:ids e=B;refine eO ?_
 (have W:=jA Tu (jA q1 (jA q2 (jA h4 (jA e1 (jA g1 (jA g2 (jA et (jA hz (jA TZ (ekk))))))))));repeat' (first|refine aq fun K hK=>?_|refine ap ?_|(with_reducible refine gR 4 ?_);refine dE 4 (aW 0 12) mixed ?_|(with_reducible refine gR 6 ?_);refine qw 6 [hn 1 N.ah.c] [] [56] [] (aW 0 13) mixed ?_|(refine hK _ _ ?_;clear hK K)|(refine ao ?_ ?_<;>intro hc<;>try exact jz)|refine aT 4 ?_|refine aT 5 ?_|refine aT 7 ?_|refine cH 9 ?_|refine cp (XU) ?_|refine cq (XU) ?_|refine cp (hvc) ?_|(refine FH Wa (Je Tu rfl rfl) rfl (Ft nm v) (Gu nm v) ?_;try refine S ?_)|(refine nU V2 (u' _ _) ?_)|refine cT Vg ?_|(refine bF ?_ ?_<;>intro hc<;>try exact jz)|refine ar ?_|exact jI|(clear hK K)))
 exact dY hB hR.ok k2 (tl:=[(4,.var 32 (cd p)),(5,.var 9 [rS nm]),(7,.var 54 (bS v)),(9,.var 45 (lI Sh))]) (fun _=>rfl) (dm jC (dm jC (dm jC (dm jC dD)))) [.tmp 8]
end
end Go.Proofs.YtjpcgmjaipfgdaaGreatDoor