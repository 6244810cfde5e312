/- Lemmas. No conditions. -/
import Derived.Test.YtjpcgmjaipfgdaaGreatDoorDlP
import Derived.Test.YtjpcgmjaipfgdaaGreatDoorCmG
set_option linter.all false
set_option maxHeartbeats 4000000
set_option maxRecDepth 10000
namespace Go.Gd
open Go
def dR(l:List ba):List UX:=l.map ba.name
def sZ(t:aB)(vs:List UX)(x:Int):List UX:=if(nth t.nodes x.toNat).kind=10 then vs++[(nth t.nodes x.toNat).name]else vs
def wz(t:aB)(S:List UX->Int->Prop):List UX->UU->Prop
 |_,[]=>True
 |vs,x::l=>S vs x/\wz t S (sZ t vs x) l
def tf(t:aB):Nat->List UX->Int->Prop
 |0,_,_=>True
 |n+1,vs,b=>wz t (fun vs x=>((nth t.nodes x.toNat).kind=10->(nth t.nodes x.toNat).name ∉ vs)/\((nth t.nodes x.toNat).kind=15\/(nth t.nodes x.toNat).kind=16->∀k∈(nth t.nodes x.toNat).l.drop 1,tf t n vs k)) vs (nth t.nodes b.toNat).l
def ve(t:aB)(n:Nat)(vs:List UX)(x:Int):Prop:=((nth t.nodes x.toNat).kind=10->(nth t.nodes x.toNat).name ∉ vs)/\((nth t.nodes x.toNat).kind=15\/(nth t.nodes x.toNat).kind=16->∀k∈(nth t.nodes x.toNat).l.drop 1,tf t n vs k)
end Go.Gd
namespace Go.Gd
theorem GM{p:ah}{node:Int}:∀(n:Nat) (b:Int) (vars R:List ba),tf p.aa n (dR vars) b->(dR vars).Nodup->gv p node n b vars=some R->(dR R).Nodup
 |0,b,vars,R,_,_,e=>by cases e
 |n+1,b,vars,R,hb,hn,e=>by
  have ih:=GM (p:=p) (node:=node) n;have aC:∀(l:UU) (vs R:List ba),(∀k∈l,tf p.aa n (dR vs) k)->(dR vs).Nodup->ld (gv p node n) vs l=some R->(dR R).Nodup:=fun l=>by
   induction l with
   |nil=>intro vs R _ _ e;cases e
   |cons y l ihl=>
    intro vs R hk V' e;unfold ld at e;cases e1:gv p node n y vs with
    |none=>rw[e1]at e;exact ihl vs R (fun k Vn=>hk k (by simp[Vn])) V' e
    |some R'=>rw[e1]at e;cases e;exact ih y vs _ (hk y jE) V' e1
  have sc:∀(l:UU) (vs R:List ba),wz p.aa (ve p.aa n) (dR vs) l->(dR vs).Nodup->mV (gv p node n) p node l vs=some R->(dR R).Nodup:=fun l=>by
   induction l with
   |nil=>intro vs R _ _ e;cases e
   |cons x l ihl=>
    intro vs R hl V' e;obtain⟨⟨h1,h2⟩,h3⟩:=hl;have Yd:dR (iC p x vs)=sZ p.aa (dR vs) x:=by
     unfold iC sZ;show dR (if(nth p.aa.nodes x.toNat).kind=10 then vs++[pz p x]else vs)=_;split
     ·unfold dR;rw[List.map_append];rfl
     ·rfl
    have WM:(dR (iC p x vs)).Nodup:=by
     rw[Yd];unfold sZ;split
     ·rename_i c;exact List.nodup_append.2 ⟨V',jE,fun y hy z hz=>by rw[List.mem_singleton.1 hz];exact fun e=>h1 c (e ▸ hy)⟩
     ·exact V'
    unfold mV at e;split at e
    ·cases e;exact V'
    ·cases e1:(if(ap p x).kind=15\/(ap p x).kind=16 then ld (gv p node n) (iC p x vs) ((ap p x).l.drop 1)else none)with
     |none=>rw[e1]at e;exact ihl _ R (by rw[Yd];exact h3) WM e
     |some R'=>
      rw[e1]at e;cases e;split at e1
      ·rename_i c;have c:(nth p.aa.nodes x.toNat).kind=15\/(nth p.aa.nodes x.toNat).kind=16:=c;refine aC _ _ _ (fun k hk=>?_) WM e1;have Vd:iC p x vs=vs:=by
        unfold iC;rw[if_neg (fun e=>by have e:(nth p.aa.nodes x.toNat).kind=10:=e;omega)]
       rw[Vd];exact h2 c k hk
      ·cases e1
  exact sc _ _ _ hb hn e
theorem Ar:∀(l:List bp) (i:Int),dR (iw l i)=l.map bp.name
 |[],_=>rfl
 |x::l,i=>by unfold iw dR;rw[List.map_cons,List.map_cons];show _::dR (iw l (i+1))=_;rw[Ar l]
end Go.Gd
namespace Go.Gd
open Go
def Cl(b:UX):Prop:=b.size<=8/\∀j:Nat,j<b.size->lL (dY b j)=true
def RN:Cl ⟨#[]⟩:=⟨jC,fun j h=>absurd h (Nat.not_lt_zero j)⟩
def no{k:Int}{nm:UX}(h:k≠10):k=10->Cl nm:=fun e=>(h e).elim
def Ln(x:Int):Prop:=0<=x/\x<=1000
structure bE(r:Rd):Prop where
 l:∀t∈r.l,t.kind=3->Cl t.text
 n:∀x∈r.nodes,(x.kind=10->Cl x.name)/\Ln x.bA
 src:r.src.size<=600
namespace bE
variable {r:Rd}
theorem tok(h:bE r)(hk:r.tok.kind=3):Cl r.tok.text:=by
 unfold Rd.tok at hk ⊢;by_cases e:r.i.toNat<r.l.length
 ·exact h.l _ (cV e) hk
 ·unfold nth at hk;rw[List.getD_eq_getElem?_getD,List.getElem?_eq_none jB]at hk;exact absurd hk jC
def same{r':Rd}(h:bE r)(h1:r'.l=r.l)(h2:r'.nodes=r.nodes)(h3:r'.src=r.src:=by rfl):bE r':=⟨by rw[h1];exact h.l,by rw[h2];exact h.n,by rw[h3];exact h.src⟩
def ln(h:bE r):Ln r.bA:=by have:=CT r.src (min r.src.size r.tok.at_.toNat);have:=h.src;unfold Ln Rd.bA;omega
theorem aA(h:bE r)(e:Int):bE (r.aA e):=by unfold Rd.aA;split;exact h.same rfl rfl;exact h
theorem inc(h:bE r):bE r.inc:=h.same rfl rfl
theorem up(h:bE r):bE r.up:=h.same rfl rfl
theorem down(h:bE r):bE r.down:=by
 unfold Rd.down;split
 ·exact(h.aA 21).same rfl rfl
 ·exact h.same rfl rfl
theorem ao(h:bE r)(t:UX):bE (r.ao t):=by unfold Rd.ao;split;exact h.inc;exact h.aA _
theorem name(h:bE r):bE r.name.1:=by unfold Rd.name;split;exact h.inc;exact h.aA _
def nm(h:bE r):Cl r.name.2:=by
 unfold Rd.name;split
 ·rename_i c;unfold Rd.kind at c;simp only[Bool.and_eq_true,decide_eq_true_eq]at c;exact h.tok c.2
 ·exact RN
theorem put(h:bE r)(k:Int){ln:Int}(hl:Ln ln)(n:Int){nm:UX}(hn:k=10->Cl nm)(L:UU):bE (r.put k ln n nm L).1:=⟨h.l,fun x hx=>by
 have hx:x∈r.nodes++[_]:=hx;rcases List.mem_append.1 hx with hx|hx
 ·exact h.n x hx
 ·rw[List.mem_singleton]at hx;subst hx;exact⟨hn,hl⟩,h.src⟩
end bE
theorem Ei:∀n:Nat,(∀r,bE r->bE (po n r).1)/\(∀r,bE r->bE (ig n r).1)/\(∀lv r,bE r->bE (dF n lv r).1)/\(∀lv ln (p:Rd×Int),bE p.1->Ln ln->bE (ny n lv ln p).1)
 |0=>⟨fun r h=>by unfold po;exact h,fun r h=>by unfold ig;exact h,fun lv r h=>by unfold dF;exact h,fun lv ln p h _=>by unfold ny;exact h⟩
 |n+1=>by
  obtain⟨i1,i2,i3,i4⟩:=Ei n;refine⟨fun r h=>?_,fun r h=>?_,fun lv r h=>?_,fun lv ln p h VR=>?_⟩
  ·unfold po;split
   ·exact h
   split
   ·exact h.inc.put _ h.ln _ (no jC) _
   split
   ·exact h.inc.put _ h.ln _ (no jC) _
   split
   ·split
    ·exact((i3 0 _ (h.inc.down.ao _)).ao _).up.put _ h.ln _ (no jC) _
    ·exact h.inc.put _ h.ln _ (no jC) _
   split
   ·exact h.inc.put _ h.ln _ (no jC) _
   split
   ·exact h.inc.put _ h.ln _ (no jC) _
   split
   ·split
    ·exact((i3 0 _ (h.inc.down.ao _)).ao _).up.put _ h.ln _ (no jC) _
    ·exact h.inc.aA _
   split
   ·exact((i3 0 _ (h.down.ao _)).ao _).up
   ·exact h.aA _
  ·unfold ig;split
   ·exact(i2 _ h.down.inc).up.put _ h.ln _ (no jC) _
   split
   ·exact(i2 _ h.down.inc).up.put _ h.ln _ (no jC) _
   ·exact i1 _ h
  ·unfold dF;split
   ·exact i2 _ h
   ·exact i4 _ _ _ (i3 _ _ h) h.ln
  ·unfold ny;have hk:=(i3 (lv+1) _ h.inc).put 9 VR 0 (nm:=p.1.next lv) (no jC) [p.2,(dF n (lv+1) p.1.inc).2];split
   ·exact h
   split
   ·exact hk
   ·exact i4 _ _ _ hk VR
variable{r:Rd}
def ub(h:bE r):bE (cU r).1:=(Ei _).2.2.1 0 r h
theorem Fu:∀(n:Nat) (b:Bool) (r:Rd) (L:UU),bE r->bE (mf n b r L).1
 |0,_,r,L,h=>by unfold mf;exact h
 |n+1,false,r,L,h=>by unfold mf;exact h
 |n+1,true,r,L,h=>by
  unfold mf;split
  ·exact Fu n _ _ _ (ub h).inc
  ·exact ub h
def Il(h:bE r):bE (mU r).1:=((Fu _ _ _ _ (h.name.ao _)).ao _).put _ h.ln _ (no jC) _
def DZ(h:bE r):bE (kZ r).1:=by
 unfold kZ;split
 ·exact h.inc.put _ h.ln _ (no jC) _
 split
 ·exact((ub (h.inc.ao _)).ao _).put _ h.ln _ (no jC) _
 split
 ·exact Il h
 ·exact ub h
def TW(h:bE r)(ln:Int)(VR:Ln ln):bE (pd r ln).1:=by
 have ha:bE (pe r.name.1).1:=ub (h.name.down.ao _);have hb:bE (uB r.name.1).1:=ub (((ha.ao _).up).ao _);unfold pd;split
 ·exact((Il h).ao _).put _ VR _ (no jC) _
 split
 ·exact(hb.ao _).put _ VR _ (no jC) _
 ·exact((DZ (h.name.ao _)).ao _).put _ VR _ (no jC) _
theorem D5:∀n:Nat,(∀r,bE r->bE (fP n r).1)/\(∀r L,bE r->bE (mn n r L).1)/\(∀r,bE r->bE (mF n r).1)
 |0=>⟨fun r h=>by unfold fP;exact h,fun r L h=>by unfold mn;exact h,fun r h=>by unfold mF;exact h⟩
 |n+1=>by
  obtain⟨i1,i2,i3⟩:=D5 n;refine⟨fun r h=>?_,fun r L h=>?_,fun r h=>?_⟩
  ·unfold fP;split
   ·exact((i2 _ [] (h.down.ao _)).ao _).up.put _ h.ln _ (no jC) _
   ·exact h.aA _
  ·unfold mn;split
   ·exact i2 _ _ (i3 _ h)
   ·exact h
  ·have he:=ub h.inc;have hb:=i1 _ he;unfold mF;split
   ·exact((DZ (h.inc.name.ao _)).ao _).put _ h.ln _ (fun _=>h.inc.nm) _
   split
   ·exact(he.ao _).put _ h.ln _ (no jC) _
   split
   ·exact hb.put _ h.ln _ (no jC) _
   split
   ·split
    ·exact(i1 _ hb.inc).put _ h.ln _ (no jC) _
    ·exact hb.put _ h.ln _ (no jC) _
   split
   ·split
    ·exact(h.inc.ao _).put _ h.ln _ (no jC) _
    ·exact(he.ao _).put _ h.ln _ (no jC) _
   ·exact TW h _ h.ln
def TT(h:bE r):bE (oi r).1:=(D5 _).1 r h
def F1(h:bE r):bE (iB r).1:=by unfold iB;split;exact h.aA _;exact h.inc
theorem GR:∀(n:Nat) (b:Bool) (r:Rd) (L:List bp),bE r->(∀x∈L,Cl x.name)->bE (k9 n b r L).1/\∀x∈(k9 n b r L).2,Cl x.name
 |0,_,r,L,h,hl=>by unfold k9;exact⟨h,hl⟩
 |n+1,false,r,L,h,hl=>by unfold k9;exact⟨h,hl⟩
 |n+1,true,r,L,h,hl=>by
  have hp:bE (pr r):=F1 h.name;have Vf:∀x∈L++[(⟨r.name.2,(iB r.name.1).2⟩:bp)],Cl x.name:=fun x hx=>by
   rcases List.mem_append.1 hx with hx|hx
   ·exact hl x hx
   ·rw[List.mem_singleton]at hx;subst hx;exact h.nm
  unfold k9;split
  ·exact GR n _ _ _ hp.inc Vf
  ·exact⟨hp,Vf⟩
structure yG(f:aV):Prop where
 n:Cl f.name
 p:∀x∈f.params,Cl x.name
def IH(h:bE r):bE (mA r).1/\yG (mA r).2:=by
 have ha:bE (l5 r):=(h.ao _).name.ao _;have hb:=GR ((l5 r).rem+2) (more (l5 r)) (l5 r) [] ha fun x hx=>by cases hx
 have hc:bE (lI r):=hb.1.ao _;have hd:bE (lT r).1:=by unfold lT;split;exact hc;exact F1 hc
 exact⟨TT hd,(h.ao _).nm,hb.2⟩
theorem Gr:∀(n:Nat) (r:Rd) (L:List aV),bE r->(∀f∈L,yG f)->bE (ot n r L).1/\∀f∈(ot n r L).2,yG f
 |0,r,L,h,hl=>by unfold ot;exact⟨h,hl⟩
 |n+1,r,L,h,hl=>by
  unfold ot;split
  ·refine Gr n _ _ (IH h).1 fun f hf=>?_
   rcases List.mem_append.1 hf with hf|hf
   ·exact hl f hf
   ·rw[List.mem_singleton]at hf;subst hf;exact(IH h).2
  ·exact⟨h,hl⟩
def vt{k:Int}(h:k=3)(d:decide (k=3)=false):False:=by rw[decide_eq_true h]at d;cases d
def Qh{s:UX}(a:Nat)(hk:(gP s a).1.kind=3):Cl (gP s a).1.text:=by
 unfold gP at hk ⊢;split at hk
 ·split at hk<;>exact(vt hk rfl).elim
 rename_i e1;rw[if_neg e1];split at hk
 ·rename_i e2;rw[if_pos e2];split at hk
  ·exact(vt hk rfl).elim
  rename_i e3;rw[if_neg e3];split at hk
  ·exact(vt hk rfl).elim
  rename_i e4;rw[if_neg e4];refine⟨by show(s.extract a (gJ lL s a)).size<=8;omega,fun j hj=>?_⟩;have hj:j<(s.extract a (gJ lL s a)).size:=hj;show lL (dY (s.extract a (gJ lL s a)) j)=true;rw[ByteArray.size_extract]at hj;have Vj:gJ lL s a<=s.size:=by
   rcases Nat.le_total a s.size with h|h
   ·exact(uw h).2
   ·have:gJ lL s a=a:=by unfold gJ pV;rw[jN]
    omega
  rw[GL Vj jB];exact CL (n:=s.size+1) (i:=a) jB (by unfold gJ at hj;omega)
 rename_i e2;split at hk
 ·exact(vt hk rfl).elim
 split at hk<;>exact(vt hk rfl).elim
theorem D8{s:UX}:∀(n i:Nat) (out:List cd),(∀t∈out,t.kind=3->Cl t.text)->∀t∈(kP s n i out).1,t.kind=3->Cl t.text
 |0,i,out,h=>by unfold kP;exact h
 |n+1,i,out,h=>by
  unfold kP;split
  ·split
   ·rename_i e;refine D8 n _ _ fun t ht=>?_
    rcases List.mem_append.1 ht with ht|ht
    ·exact h t ht
    ·rw[List.mem_singleton]at ht;subst ht;exact Qh i
   ·intro t ht;cases ht
  ·intro t ht;rcases List.mem_append.1 ht with ht|ht
   ·exact h t ht
   ·rw[List.mem_singleton]at ht;subst ht;exact fun e=>(vt e rfl).elim
def OV(s:UX):∀t∈(ko s).1,t.kind=3->Cl t.text:=by
 unfold ko;split
 ·intro t ht;cases ht
 ·exact D8 _ _ _ fun t ht=>by cases ht
structure fx(t:aB):Prop where
 n:∀x∈t.nodes,(x.kind=10->Cl x.name)/\Ln x.bA
 f:∀f∈t.ak,yG f
def Ux(s:UX):fx (gu s).1:=by
 have h0:fx ⟨[],[]⟩:=⟨fun x hx=>(by cases hx),fun f hf=>(by cases hf)⟩;unfold gu;split
 ·exact h0
 rename_i hx;have h:=Gr ((nN s).rem+1) (nN s) [] ⟨OV s,fun x hx=>(by cases hx),(Ka (Classical.not_not.1 hx)).1⟩ fun f hf=>by cases hf
 split
 ·exact h0
 split
 ·exact h0
 ·exact⟨h.1.n,h.2⟩
variable{b:UX}{x:UInt8}
def Tk(h:x∈lt b):∃j:Nat,j<b.size/\dY b j=(x.toNat:Int):=by
 obtain⟨j,hj,e⟩:=List.getElem_of_mem h;have ZX:j<b.size:=by
  have:(lt b).length=b.size:=by show b.data.toList.length=b.size;rw[Array.length_toList];rfl
  omega
 refine⟨j,ZX,?_⟩;show((b.data[(j:Int).toNat]?.getD 0).toNat:Int)=_;have:b.data[j]?=some x:=by rw[<-Array.getElem?_toList,List.getElem?_eq_getElem hj];exact congrArg some e
 rw[Int.toNat_natCast,this];rfl
def Cl.not(h:Cl b)(hx:lL (x.toNat:Int)=false):x ∉ lt b:=fun hm=>by obtain⟨j,hj,e⟩:=Tk hm;have:=h.2 j hj;rw[e,hx]at this;cases this
def P0(n:Int):cA n≠(⟨#[45]⟩:UX):=fun e=>by
 have e:=congrArg lt e;have h45:lt (⟨#[45]⟩:UX)=[45]:=jC;rw[h45]at e;have e:(cA n).data.toList=[45]:=e;rw[zS]at e;split at e
 ·exact(su _ _ (Nat.lt_succ_self _)).2.2 (List.cons.inj e).2
 ·have:=(su _ _ (Nat.lt_succ_self n.toNat)).2.1 45 (by rw[e];simp);exact absurd this.1 jC
def Gh{a:UX}(hb:lt b=[x])(hx:x≠45):a++b≠(⟨#[45]⟩:UX):=fun e=>by have e:=congrArg lt e;have h45:lt (⟨#[45]⟩:UX)=[45]:=jC;rw[qm,hb,h45]at e;have:=congrArg List.getLast? e;simp at this;exact hx this
def SJ(heap:UT)(seen:UU)(v:aj):(lw heap seen v).1≠(⟨#[45]⟩:UX):=by
 unfold lw;split
 ·split
  ·show uM _ _ _≠_;unfold uM;exact Gh (x:=93) jC jC
  ·show(⟨#[35,48,91,93]⟩:UX)≠(⟨#[45]⟩:UX);decide
 ·show tC v≠_;unfold tC;split
  ·exact Gh (x:=34) jC jC
  ·rename_i h3;unfold lm;rw[if_neg h3];repeat' split
   all_goals first
    |exact P0 _
    |decide
theorem Jl(heap:UT)(slots:List aj):∀(l:List ba) (a:List aG) (seen:UU),(l.foldl (tY heap slots) (a,seen)).1.map aG.name=a.map aG.name++l.map ba.name/\∀x∈(l.foldl (tY heap slots) (a,seen)).1,x∈a\/x.text≠(⟨#[45]⟩:UX)
 |[],a,seen=>⟨by simp,fun x hx=>.inl hx⟩
 |v::l,a,seen=>by
  obtain⟨i1,i2⟩:=Jl heap slots l (a++[⟨v.name,(lw heap seen (dq slots v.slot v.ty)).1⟩]) (lw heap seen (dq slots v.slot v.ty)).2;refine⟨?_,fun x hx=>?_⟩
  ·show(l.foldl (tY heap slots) (a++[_],_)).1.map aG.name=_;rw[i1];simp
  ·rcases i2 x hx with h|h
   ·rcases List.mem_append.1 h with h|h
    ·exact .inl h
    ·rw[List.mem_singleton.1 h];exact .inr (SJ _ _ _)
   ·exact .inr h
theorem Kz(p:ah)(heap:UT):∀(l:List fh) (a:List gH×UU),∀c∈(l.foldl (tq p heap) a).1,c∈a.1\/∃s∈l,∃seen,c=⟨(nth p.aa.ak s.fn.toNat).name,(ap p s.node).bA,(jK heap s.slots (dV p s.node) seen).1⟩
 |[],a,c,h=>.inl h
 |s::l,a,c,h=>by
  rcases Kz p heap l (tq p heap a s) c h with h|⟨s',h1,h2⟩
  ·have h:c∈a.1++[_]:=h;rcases List.mem_append.1 h with h|h
   ·exact .inl h
   ·exact .inr ⟨s,jE,_,List.mem_singleton.1 h⟩
  ·exact .inr ⟨s',by simp[h1],h2⟩
theorem Ja{p:ah}{node:Int}{P:ba->Prop}(hP:∀x,(ap p x).kind=10->P (pz p x)):∀(n:Nat) (b:Int) (vars R:List ba),(∀v∈vars,P v)->gv p node n b vars=some R->∀v∈R,P v
 |0,b,vars,R,_,e=>by cases e
 |n+1,b,vars,R,hv,e=>by
  have ih:=Ja (node:=node) hP n;have aC:∀(l:UU) (vs R:List ba),(∀v∈vs,P v)->ld (gv p node n) vs l=some R->∀v∈R,P v:=fun l=>by
   induction l with
   |nil=>intro vs R _ e;cases e
   |cons y l ihl=>
    intro vs R V' e;unfold ld at e;cases e1:gv p node n y vs with
    |none=>rw[e1]at e;exact ihl vs R V' e
    |some R'=>rw[e1]at e;cases e;exact ih y vs _ V' e1
  have sc:∀(l:UU) (vs R:List ba),(∀v∈vs,P v)->mV (gv p node n) p node l vs=some R->∀v∈R,P v:=fun l=>by
   induction l with
   |nil=>intro vs R _ e;cases e
   |cons x l ihl=>
    intro vs R V' e;have WM:∀v∈iC p x vs,P v:=fun v Ve=>by
     unfold iC at Ve;split at Ve
     ·rename_i k10;rcases List.mem_append.1 Ve with Ve|Ve
      ·exact V' v Ve
      ·rw[List.mem_singleton]at Ve;subst Ve;exact hP x k10
     ·exact V' v Ve
    unfold mV at e;split at e
    ·cases e;exact V'
    ·cases e1:(if(ap p x).kind=15\/(ap p x).kind=16 then ld (gv p node n) (iC p x vs) ((ap p x).l.drop 1)else none)with
     |none=>rw[e1]at e;exact ihl _ R WM e
     |some R'=>
      rw[e1]at e;cases e;split at e1
      ·exact aC _ _ _ WM e1
      ·cases e1
  exact sc _ _ _ hv e
def TM{l:List aG}(h:(l.map aG.name).Nodup):uc l:=fun i j hi hj e=>by
 have Wx:i<(l.map aG.name).length:=by simpa using hi
 have ZX:j<(l.map aG.name).length:=by simpa using hj
 have e2:(l.map aG.name)[i]=(l.map aG.name)[j]:=by rw[List.getElem_map,List.getElem_map,<-ee hi,<-ee hj];exact e
 rcases Nat.lt_trichotomy i j with c|c|c
 ·exact(List.pairwise_iff_getElem.1 h i j Wx ZX c e2).elim
 ·exact c
 ·exact(List.pairwise_iff_getElem.1 h j i ZX Wx c e2.symm).elim
structure NC where
 c:Nat
 v:Nat
 jk:List aj
 deriving Inhabited
structure NM where
 k:Nat
 cs:List NC
 cj:List Nat
namespace MV
def cE(c:MC)(n:NC):US:=[.rs (hn 2 n.v) (c.stack.length+n.jk.length) 3 c.stack.length,.raw (.int .i64 c.fn),.raw (.int .i64 c.at_),.raw (.int .i64 c.mark),.rs (hn 1 n.c) c.slots.length 3 c.slots.length]
def mE(p:ah)(C:aE)(m:MV)(N:NM):US:=kD p++[aO df 4 C.ins,aO eI 1 C.entry,.rs (hn 4 N.k) (N.cs.length+N.cj.length) 1 N.cs.length,.pt (hn 5 N.k) 0 0 0,.rs (hn 8 N.k) m.aS.length 1 m.aS.length,.raw (.int .i64 m.in_),.raw (.int .i64 m.status),.raw (.int .i64 m.bs),.raw (.int .i64 m.time)]
structure jc(c:MC)(n:NC)(e:List (Nat×Row)):Prop where
 var:az e (hn 0 n.c)=some (.var 217 (cE c n))
 cH:az e (hn 2 n.v)=some (.aD 54 3 ((c.stack++n.jk).map bW))
 eN:az e (hn 1 n.c)=some (.aD 54 3 (c.slots.map bW))
 bd:c.stack.length+n.jk.length<=2000
structure bI(p:ah)(C:aE)(m:MV)(N:NM)(e:List (Nat×Row)):Prop where
 ok:fF 0 e
 root:az e (hn 3 N.k)=some (.var 205 (mE p C m N))
 row:az e (hn 4 N.k)=some (.aD 213 1 ((N.cs.map NC.c++N.cj).map fun j=>[.pt (hn 0 j) 0 0 0]))
 hp:az e (hn 5 N.k)=some (.var 269 [.rs (hn 6 N.k) m.heap.flatten.length 1 m.heap.flatten.length,.rs (hn 7 N.k) m.heap.length 1 m.heap.length])
 cells:az e (hn 6 N.k)=some (.aD 3 1 (m.heap.flatten.map eI))
 ends:az e (hn 7 N.k)=some (.aD 3 1 ((lO m.heap).map eI))
 outs:az e (hn 8 N.k)=some (.aD 9 1 (m.aS.map eS))
 len:N.cs.length=m.calls.length
 call:∀k,k<m.calls.length->jc (nth m.calls k) (nth N.cs k) e
 nc:(N.cs.map NC.c).Nodup
 nv:(N.cs.map NC.v).Nodup
 bd:N.cs.length+N.cj.length<=1000
end MV
def NM.ai(N:NM):NC:=nth N.cs (N.cs.length-1)
def NM.aX(N:NM)(n:NC):NM:={ N with cs:=N.cs.set (N.cs.length-1) n }
attribute [go_sem] MV.cE MV.mE
variable{α:Type}
def wO{β:Type}[Inhabited α][Inhabited β](f:α->β)(l:List α)(k:Nat)(h:k<l.length):nth (l.map f) k=f (nth l k):=by rw[ee (by simpa using h),ee h];simp
def J4[Inhabited α]{l:List α}(h:l.Nodup){i j:Nat}(hi:i<l.length)(hj:j<l.length)(e:nth l i=nth l j):i=j:=by rw[ee hi,ee hj]at e;exact(List.getElem_inj h).1 e
def Nr[Inhabited α]{l:List α}(h:l.Nodup){i:Nat}(hi:i<l.length){v:α}(hv:∀j,j<l.length->j≠i->nth l j≠v):(l.set i v).Nodup:=by
 unfold List.Nodup;rw[List.pairwise_iff_getElem];intro a b ha hb hab e;rw[List.length_set]at ha hb;rw[List.getElem_set,List.getElem_set]at e;split at e<;>split at e
 ·omega
 ·rename_i h1 h2;exact hv b hb jB (by rw[ee hb];exact e.symm)
 ·rename_i h1 h2;exact hv a jB jB (by rw[ee jB];exact e)
 ·have:=(List.getElem_inj h).1 e;omega
namespace MV
variable {p:ah}{C:aE}{m:MV}{N:NM}{e:UR}
theorem bI.ai(h:bI p C m N e)(h1:1<=m.calls.length):jc m.ai N.ai e:=by have:=h.call (m.calls.length-1) jB;unfold NM.ai MV.ai;rw[h.len];exact this
def bI.ne{k j:Nat}(h:bI p C m N e)(hk:k<N.cs.length)(hj:j<N.cs.length)(hkj:k≠j):(nth N.cs k).c≠(nth N.cs j).c/\(nth N.cs k).v≠(nth N.cs j).v:=by
 constructor
 ·intro e';exact hkj (J4 h.nc (by simpa using hk) (by simpa using hj) (by rw[wO _ _ _ hk,wO _ _ _ hj];exact e'))
 ·intro e';exact hkj (J4 h.nv (by simpa using hk) (by simpa using hj) (by rw[wO _ _ _ hk,wO _ _ _ hj];exact e'))
theorem bI.aX(hR:bI p C m N e)(h1:1<=m.calls.length){c':MC}{n':NC}{e':UR}(hnc:n'.c=N.ai.c)(ok:fF 0 e')(hc:jc c' n' e')(hv:n'.v=N.ai.v\/az e (hn 2 n'.v)=none)
  (hs:∀j,az e j≠none->j≠hn 0 N.ai.c->j≠hn 1 N.ai.c->j≠hn 2 N.ai.v->az e' j=az e j):bI p C (m.aX c') (N.aX n') e':=by
 have hl:=hR.len;have kind:∀(a k:Nat) (r:Row),2<a->a<32->az e (hn a k)=some r->az e' (hn a k)=some r:=fun a k r h2 WT h=>by rw[hs _ (by rw[h];simp) (dc WT jB jB) (dc WT jB jB) (dc WT jB jB)];exact h
 have cs:(N.aX n').cs.map NC.c=N.cs.map NC.c:=by show(N.cs.set _ n').map NC.c=_;rw[List.map_set,hnc];unfold NM.ai;rw[<-wO NC.c N.cs _ jB,ee (by rw[List.length_map];omega),List.set_getElem_self]
 have ln:(N.aX n').cs.length=N.cs.length:=by show(N.cs.set _ n').length=_;simp
 have nu:∀k,nth (N.aX n').cs k=if k=N.cs.length-1 then n' else nth N.cs k:=fun k=>Go.Gd.dD _ _ _ _ jB
 have mu:∀k,nth (m.aX c').calls k=if k=m.calls.length-1 then c' else nth m.calls k:=fun k=>Go.Gd.dD _ _ _ _ jB
 have ml:(m.aX c').calls.length=m.calls.length:=by show(m.calls.set _ c').length=_;simp
 refine⟨ok,?_,?_,kind 5 _ _ jB jB hR.hp,kind 6 _ _ jB jB hR.cells,kind 7 _ _ jB jB hR.ends,kind 8 _ _ jB jB hR.outs,by rw[ln,ml];exact hl,fun k hk=>?_,by rw[cs];exact hR.nc,?_,by rw[ln];exact hR.bd⟩
 ·rw[show mE p C (m.aX c') (N.aX n')=mE p C m N by unfold mE;rw[ln];rfl];exact kind 3 _ _ jB jB hR.root
 ·rw[cs];exact kind 4 _ _ jB jB hR.row
 ·rw[ml]at hk;rw[nu,mu,hl];by_cases ek:k=m.calls.length-1
  ·rw[if_pos ek,if_pos ek];exact hc
  ·rw[if_neg ek,if_neg ek];have V7:=hR.call k hk;obtain⟨n1,n2⟩:=hR.ne (k:=k) (j:=N.cs.length-1) jB jB jB;have n1:(nth N.cs k).c≠N.ai.c:=n1;have n2:(nth N.cs k).v≠N.ai.v:=n2;exact⟨by rw[hs _ (by rw[V7.var];simp) (fun e=>n1 (xB jB jB e).2) (dc jB jB jB) (dc jB jB jB)];exact V7.var,
    by rw[hs _ (by rw[V7.cH];simp) (dc jB jB jB) (dc jB jB jB) (fun e=>n2 (xB jB jB e).2)];exact V7.cH,
    by rw[hs _ (by rw[V7.eN];simp) (dc jB jB jB) (fun e=>n1 (xB jB jB e).2) (dc jB jB jB)];exact V7.eN,V7.bd⟩
 ·show((N.cs.set _ n').map NC.v).Nodup;rw[List.map_set];refine Nr hR.nv (by rw[List.length_map];omega) fun j hj Xy e'=>?_
  rw[List.length_map]at hj;rw[wO _ _ _ hj]at e';rcases hv with hv|hv
  ·rw[hv]at e';exact(hR.ne hj jB Xy).2 e'
  ·have V7:=(hR.call j jB).cH;rw[e',hv]at V7;cases V7
def bI.mJ(hR:bI p C m N e){m':MV}(h1:m'.calls=m.calls)(h2:m'.heap=m.heap)(h3:m'.aS=m.aS):bI p C m' N (aZ e (hn 3 N.k) (.var 205 (mE p C m' N))):=by
 have kind:∀(a k:Nat) (r:Row),a≠3->a<32->az e (hn a k)=some r->az (aZ e (hn 3 N.k) (.var 205 (mE p C m' N))) (hn a k)=some r:=fun a k r h3 WT h=>by rw[bO,if_neg (dc WT jB h3)];exact h
 refine⟨hR.ok.put (.inr (iJ _ _)) ?_,by rw[bO,if_pos rfl],kind _ _ _ jB jB hR.row,?_,?_,?_,?_,by rw[h1];exact hR.len,fun k hk=>?_,hR.nc,hR.nv,hR.bd⟩
 ·have c4:=fV hR.row;have c5:=fV hR.hp;have c8:=fV hR.outs;have up:aR (fun j=>decide (j=hn 3 N.k) || (ids e).contains j) (kD p)=true:=fR (q:=eo) (fun _ h=>by cases h) _ rfl;unfold mE;simp only[Row.cells];rw[s9,up];simp only[aR,AV.all,c4,c5,c8,Bool.or_true,Bool.and_self,aO]
 ·rw[h2];exact kind _ _ _ jB jB hR.hp
 ·rw[h2];exact kind _ _ _ jB jB hR.cells
 ·rw[h2];exact kind _ _ _ jB jB hR.ends
 ·rw[h3];exact kind _ _ _ jB jB hR.outs
 ·rw[h1]at hk ⊢;have hc:=hR.call k hk;exact⟨kind _ _ _ jB jB hc.var,kind _ _ _ jB jB hc.cH,kind _ _ _ jB jB hc.eN,hc.bd⟩
end MV
def kE(fn at_ mark:Int)(vs jk slots:List aj):UR:=[(6,.var 217 [.rs 7 (vs.length+jk.length) 3 vs.length,.raw (.int .i64 fn),.raw (.int .i64 at_),.raw (.int .i64 mark),.rs 8 slots.length 3 slots.length]),(7,.aD 54 3 ((vs++jk).map bW)),(8,.aD 54 3 (slots.map bW))]
attribute [go_sem] kE
mutual
theorem vW{f:Nat->Nat}:∀a:AV,a.all eo=true->a.bV f=a
 |.raw _,_=>by simp only[AV.bV]
 |.any,_=>by simp only[AV.bV]
 |.agg cs,h=>by simp only[AV.all]at h;simp only[AV.bV,sN cs h]
 |.aY cs,h=>by simp only[AV.all]at h;simp only[AV.bV,sN cs h]
 |.sl _ _ _ _,_=>by simp only[AV.bV]
 |.ip _,_=>by simp only[AV.bV]
 |.gd _ v,h=>by simp only[AV.all]at h;simp only[AV.bV,vW v h]
 |.eT _ cs,h=>by simp only[AV.all]at h;simp only[AV.bV,sN cs h]
 |.pt _ _ _ _,h=>by simp only[AV.all]at h;cases h
 |.rs _ _ _ _,h=>by simp only[AV.all]at h;cases h
 |.rc _ _ _ _,h=>by simp only[AV.all]at h;cases h
 |.rv _ _ _ _ _,h=>by simp only[AV.all]at h;cases h
 |.mr _,h=>by simp only[AV.all]at h;cases h
 |.bd _ fs,h=>by simp only[AV.all]at h;simp only[AV.bV,sN fs h]
 |.iS _ v,h=>by simp only[AV.all]at h;simp only[AV.bV,vW v h]
 |.mv _ v,h=>by simp only[AV.all]at h;simp only[AV.bV,vW v h]
theorem sN{f:Nat->Nat}:∀l:US,aR eo l=true->fb f l=l
 |[],_=>rfl
 |a::l,h=>by simp only[aR,Bool.and_eq_true]at h;simp only[fb,vW a h.1,sN l h.2]
end
def vv{f:Nat->Nat}{α:Type}{enc:α->US}{sz:Nat}[he:bD enc sz](l:List α):(l.map enc).map (fb f)=l.map enc:=by rw[List.map_map];exact List.map_congr_left fun x _=>sN _ (he.free x)
def pN(x y z a b c:Nat)(i:Nat):Nat:=if i=x then a else if i=y then b else if i=z then c else i+(a+b+c+1)
def yh(x y z a b c:Nat)(j:Nat):Nat:=if j=a then x else if j=b then y else if j=c then z else j-(a+b+c+1)
def D0{x y z a b c:Nat}(h1:a≠b)(h2:a≠c)(h3:b≠c)(i:Nat):yh x y z a b c (pN x y z a b c i)=i:=by
 unfold pN;split
 ·rename_i e;unfold yh;rw[if_pos rfl];exact e.symm
 ·split
  ·rename_i e;unfold yh;rw[if_neg (fun e=>h1 e.symm),if_pos rfl];exact e.symm
  ·split
   ·rename_i e;unfold yh;rw[if_neg (fun e=>h2 e.symm),if_neg (fun e=>h3 e.symm),if_pos rfl];exact e.symm
   ·unfold yh;rw[jN,jN,jN];omega
mutual
theorem zH{f:Nat->Nat}{q q':U2}(h:∀i,q i=true->q' (f i)=true):∀a:AV,a.all q=true->(a.bV f).all q'=true
 |.raw _,_=>by simp only[AV.bV,AV.all]
 |.any,_=>by simp only[AV.bV,AV.all]
 |.agg cs,k=>by simp only[AV.all]at k;simp only[AV.bV,AV.all];exact wG h cs k
 |.aY cs,k=>by simp only[AV.all]at k;simp only[AV.bV,AV.all];exact wG h cs k
 |.sl _ _ _ _,_=>by simp only[AV.bV,AV.all]
 |.ip _,_=>by simp only[AV.bV,AV.all]
 |.gd _ v,k=>by simp only[AV.all]at k;simp only[AV.bV,AV.all];exact zH h v k
 |.eT _ cs,k=>by simp only[AV.all]at k;simp only[AV.bV,AV.all];exact wG h cs k
 |.pt i _ _ _,k=>by simp only[AV.all]at k;simp only[AV.bV,AV.all];exact h i k
 |.rs i _ _ _,k=>by simp only[AV.all]at k;simp only[AV.bV,AV.all];exact h i k
 |.rc i _ _ _,k=>by simp only[AV.all]at k;simp only[AV.bV,AV.all];exact h i k
 |.rv i _ _ _ _,k=>by simp only[AV.all]at k;simp only[AV.bV,AV.all];exact h i k
 |.mr i,k=>by simp only[AV.all]at k;simp only[AV.bV,AV.all];exact h i k
 |.bd _ fs,k=>by simp only[AV.all]at k;simp only[AV.bV,AV.all];exact wG h fs k
 |.iS _ v,k=>by simp only[AV.all]at k;simp only[AV.bV,AV.all];exact zH h v k
 |.mv _ v,k=>by simp only[AV.all]at k;simp only[AV.bV,AV.all];exact zH h v k
theorem wG{f:Nat->Nat}{q q':U2}(h:∀i,q i=true->q' (f i)=true):∀l:US,aR q l=true->aR q' (fb f l)=true
 |[],_=>rfl
 |a::l,k=>by simp only[aR,Bool.and_eq_true]at k;simp only[fb,aR,Bool.and_eq_true];exact⟨zH h a k.1,wG h l k.2⟩
end
def ab.at{P:U3}{f:FuncId}{args:US}{s s' e:UR}{r0:AV}{ρ g:Nat->Nat}(hg:∀i,g (ρ i)=i)(hc:ab P f args s fun r l=>r=r0/\l=s')(hs:∀i r,az s i=some r->az e (ρ i)=some (r.bV ρ))(ha:aR (fun i=>(ids s).contains i) args=true)
  (U9:∀i r,az s i=some r->aR (fun i=>(ids s).contains i) r.cells=true) (hn:(ids s').Nodup) (Yi:∀i∈ids s',i∈ids s):ab P f (fb ρ args) e fun r l=>r=r0.bV ρ/\l=gB e (lF ρ s'):=by
 have mem:∀i,(ids s).contains i=true->(ids (lF ρ s)).contains (ρ i)=true:=fun i hi=>by rw[yw,List.contains_iff_mem];exact List.mem_map_of_mem (List.contains_iff_mem.1 hi)
 have up:∀l:US,aR (fun i=>(ids s).contains i) l=true->aR (fun i=>(ids (lF ρ s)).contains i) (fb ρ l)=true:=fun l h=>wG mem l h
 have:=ab.more (e:=e) (ab.bV hg hc) (fun i r hi=>?_) (up _ ha) (fun i r hi=>?_) (fun r l hR=>?_)
 ·refine this.mono fun r l ⟨l0,⟨r1,l1,e1,e2,e3,e4⟩,e5⟩=>?_
  rw[e1,e3,e5,e2,e4];exact⟨rfl,rfl⟩
 ·obtain⟨j,r0,rfl,rfl,h3⟩:=xo hg hi;exact hs j r0 h3
 ·obtain⟨j,r0,rfl,rfl,h3⟩:=xo hg hi;rw[Row.gV];exact up _ (U9 j r0 h3)
 ·obtain⟨r1,l1,e1,e2,e3,e4⟩:=hR;subst e2 e4;refine⟨?_,fun i hi=>.inl ?_⟩
  ·rw[yw];exact hn.map _ (fun a b h1 h2=>h1 (by rw[<-hg a,<-hg b,h2]))
  ·obtain⟨r,hr⟩:=Option.ne_none_iff_exists'.1 hi;obtain⟨j,r0,rfl,rfl,h3⟩:=xo hg hr;obtain⟨x,hx⟩:=Option.ne_none_iff_exists'.1 ((lR _ _).1 (Yi j ((lR _ _).2 (by rw[h3];simp))));rw[y8 hg,hx];simp
def lf(P:U3)(f:FuncId)(args:US)(e:UR)(X:UW)(r0:AV)(Q:NM->List U5->Prop):Prop:=∃N' l,Q N' l/\Up X e l/\cM P f args e r0 l
namespace MV
variable {p:ah}{C:aE}{m:MV}{N:NM}{e:UR}{P:U3}{f:FuncId}{rest:US}{r0:AV}{X:UW}
def kL(N:NM)(c':MC)(jk':List aj)(e:UR):UR:=aZ (aZ (aZ e (hn 0 N.ai.c) (.var 217 (cE c' ⟨N.ai.c,N.ai.v,jk'⟩))) (hn 2 N.ai.v) (.aD 54 3 ((c'.stack++jk').map bW))) (hn 1 N.ai.c) (.aD 54 3 (c'.slots.map bW))
def bI.nW(hR:bI p C m N e)(h1:1<=m.calls.length){c':MC}{jk':List aj}(hb:c'.stack.length+jk'.length<=2000)(Vk:aR eo rest=true)(hr:r0.all eo=true)
  (hc:ab P f (.pt 6 0 0 0::rest) (kE m.ai.fn m.ai.at_ m.ai.mark m.ai.stack N.ai.jk m.ai.slots) fun r l=>r=r0/\l=kE c'.fn c'.at_ c'.mark c'.stack jk' c'.slots) :
  (bI p C (m.aX c') (N.aX ⟨N.ai.c,N.ai.v,jk'⟩) (kL N c' jk' e)/\(N.aX ⟨N.ai.c,N.ai.v,jk'⟩).ai.c=N.ai.c)/\Up X e (kL N c' jk' e)/\cM P f (.pt (hn 0 N.ai.c) 0 0 0::rest) e r0 (kL N c' jk' e):=by
 have ht:=hR.ai h1;unfold kL;have a1:hn 0 N.ai.c≠hn 2 N.ai.v:=dc jB jB jB;have a2:hn 0 N.ai.c≠hn 1 N.ai.c:=dc jB jB jB;have a3:hn 2 N.ai.v≠hn 1 N.ai.c:=dc jB jB jB;have q6:pN 6 7 8 (hn 0 N.ai.c) (hn 2 N.ai.v) (hn 1 N.ai.c) 6=hn 0 N.ai.c:=rfl;have q7:pN 6 7 8 (hn 0 N.ai.c) (hn 2 N.ai.v) (hn 1 N.ai.c) 7=hn 2 N.ai.v:=rfl;have q8:pN 6 7 8 (hn 0 N.ai.c) (hn 2 N.ai.v) (hn 1 N.ai.c) 8=hn 1 N.ai.c:=rfl;have ea:fb (pN 6 7 8 (hn 0 N.ai.c) (hn 2 N.ai.v) (hn 1 N.ai.c)) (.pt 6 0 0 0::rest)=.pt (hn 0 N.ai.c) 0 0 0::rest:=by simp only[fb,AV.bV,q6,sN _ Vk]
 have el:gB e (lF (pN 6 7 8 (hn 0 N.ai.c) (hn 2 N.ai.v) (hn 1 N.ai.c)) (kE c'.fn c'.at_ c'.mark c'.stack jk' c'.slots))=aZ (aZ (aZ e (hn 0 N.ai.c) (.var 217 (cE c' ⟨N.ai.c,N.ai.v,jk'⟩))) (hn 2 N.ai.v) (.aD 54 3 ((c'.stack++jk').map bW))) (hn 1 N.ai.c) (.aD 54 3 (c'.slots.map bW)):=by simp only[kE,lF,List.map_cons,List.map_nil,gB,q6,q7,q8,Row.bV,fb,AV.bV,vv (enc:=bW) (sz:=3),cE]
 have i0:=fV ht.var;have i1:=fV ht.eN;have i2:=fV ht.cH;have no:∀l:List aj,aR eo ((l.map bW).flatten)=true:=fun l=>pW (oJ (enc:=bW) (sz:=3) _)
 have hl:=hR.len;have Y9:bI p C (m.aX c') (N.aX ⟨N.ai.c,N.ai.v,jk'⟩) (aZ (aZ (aZ e (hn 0 N.ai.c) (.var 217 (cE c' ⟨N.ai.c,N.ai.v,jk'⟩))) (hn 2 N.ai.v) (.aD 54 3 ((c'.stack++jk').map bW))) (hn 1 N.ai.c) (.aD 54 3 (c'.slots.map bW))):=by
  refine hR.aX h1 rfl ?_ ⟨?_,?_,?_,hb⟩ (.inl rfl) fun j hj n0 n1 n2=>?_
  ·refine((hR.ok.put (.inr (iJ _ _)) ?_).put (.inr (iJ _ _)) ?_).put (.inr (iJ _ _)) ?_
   ·simp only[Row.cells,cE,aR,AV.all,i1,i2,Bool.or_true,Bool.and_self]
   ·exact fR (fun _ h=>by cases h) _ (no _)
   ·exact fR (fun _ h=>by cases h) _ (no _)
  ·rw[bO,if_neg a2,bO,if_neg a1,bO,if_pos rfl]
  ·rw[bO,if_neg a3,bO,if_pos rfl]
  ·rw[bO,if_pos rfl]
  ·rw[bO,if_neg n1,bO,if_neg n2,bO,if_neg n0]
 have hup:Up X e (aZ (aZ (aZ e (hn 0 N.ai.c) (.var 217 (cE c' ⟨N.ai.c,N.ai.v,jk'⟩))) (hn 2 N.ai.v) (.aD 54 3 ((c'.stack++jk').map bW))) (hn 1 N.ai.c) (.aD 54 3 (c'.slots.map bW))):=by
  refine((Up.put _ (.inl ?_)).trans (Up.put _ (.inl ?_))).trans (Up.put _ (.inl ?_))
  ·rw[ht.var];simp
  ·rw[bO,if_neg (fun e=>a1 e.symm),ht.cH];simp
  ·rw[bO,if_neg (fun e=>a3 e.symm),bO,if_neg (fun e=>a2 e.symm),ht.eN];simp
 refine⟨⟨Y9,?_⟩,hup,⟨?_,hR.ok,Y9.ok,hup.aU,?_⟩⟩
 ·show(nth (N.cs.set _ _) ((N.cs.set _ _).length-1)).c=_;rw[List.length_set,Go.Gd.dD _ _ _ _ jB,if_pos rfl]
 ·rw[<-ea,<-el];refine(ab.at (e:=e) (D0 a1 a2 a3) hc (fun i r h=>?_) ?_ (fun i r h=>?_) ?_ (fun i h=>h)).mono fun r l ⟨e1,e2⟩=>⟨by rw[e1,vW _ hr],e2⟩
  ·simp only[kE,az]at h;split at h
   ·rename_i ei;subst ei;cases h;rw[q6,ht.var];simp only[cE,Row.bV,fb,AV.bV,q7,q8]
   ·split at h
    ·rename_i ei;subst ei;cases h;rw[q7,ht.cH];simp only[Row.bV,vv (enc:=bW) (sz:=3)]
    ·split at h
     ·rename_i ei;subst ei;cases h;rw[q8,ht.eN];simp only[Row.bV,vv (enc:=bW) (sz:=3)]
     ·cases h
  ·simp only[aR,Bool.and_eq_true];exact⟨rfl,fR (fun _ h=>by cases h) _ Vk⟩
  ·simp only[kE,az]at h;split at h
   ·cases h;rfl
   ·split at h
    ·cases h;exact fR (q:=eo) (fun _ h=>by cases h) _ (no _)
    ·split at h
     ·cases h;exact fR (q:=eo) (fun _ h=>by cases h) _ (no _)
     ·cases h
  ·show([6,7,8]:UW).Nodup;decide
 ·simp only[aR,Bool.and_eq_true];exact⟨i0,fR (fun _ h=>by cases h) _ Vk⟩
def bI.cz(hR:bI p C m N e)(h1:1<=m.calls.length){c':MC}{jk':List aj}(hb:c'.stack.length+jk'.length<=2000)(Vk:aR eo rest=true)(hr:r0.all eo=true)
  (hc:ab P f (.pt 6 0 0 0::rest) (kE m.ai.fn m.ai.at_ m.ai.mark m.ai.stack N.ai.jk m.ai.slots) fun r l=>r=r0/\l=kE c'.fn c'.at_ c'.mark c'.stack jk' c'.slots) :
  lf P f (.pt (hn 0 N.ai.c) 0 0 0::rest) e X r0 fun N' l=>bI p C (m.aX c') N' l/\N'.k=N.k/\N'.ai.c=N.ai.c:=by
 obtain⟨h2,h3,h4⟩:=hR.nW (X:=X) h1 hb Vk hr hc;exact⟨_,_,⟨h2.1,rfl,h2.2⟩,h3,h4⟩
def bI.tD(hR:bI p C m N e)(h1:1<=m.calls.length)(Vk:aR eo rest=true)(hr:r0.all eo=true)
  (hc:ab P f (.pt 6 0 0 0::rest) (kE m.ai.fn m.ai.at_ m.ai.mark m.ai.stack N.ai.jk m.ai.slots) fun r l=>r=r0/\l=kE m.ai.fn m.ai.at_ m.ai.mark m.ai.stack N.ai.jk m.ai.slots):cM P f (.pt (hn 0 N.ai.c) 0 0 0::rest) e r0 e:=by
 have ht:=hR.ai h1;obtain⟨h2,h3,h4⟩:=hR.nW (X:=[]) (c':=m.ai) (jk':=N.ai.jk) h1 ht.bd Vk hr hc;have el:kL N m.ai N.ai.jk e=e:=by unfold kL;have e0:(⟨N.ai.c,N.ai.v,N.ai.jk⟩:NC)=N.ai:=rfl;rw[e0,uf ht.var,uf ht.cH,uf ht.eN]
 rw[el]at h4;exact h4
variable{h':UT}
def bI.ov(hR:bI p C m N e){e':UR}(ok:fF 0 e')(h1:az e' (hn 5 N.k)=some (.var 269 [.rs (hn 6 N.k) h'.flatten.length 1 h'.flatten.length,.rs (hn 7 N.k) h'.length 1 h'.length]))
  (h2:az e' (hn 6 N.k)=some (.aD 3 1 (h'.flatten.map eI))) (h3:az e' (hn 7 N.k)=some (.aD 3 1 ((lO h').map eI))) (hs:∀j,j≠hn 5 N.k->j≠hn 6 N.k->j≠hn 7 N.k->az e' j=az e j):bI p C { m with heap:=h' } N e':=by
 have kind:∀(a k:Nat) (r:Row),a≠5->a≠6->a≠7->a<32->az e (hn a k)=some r->az e' (hn a k)=some r:=fun a k r h5 h6 h7 WT h=>by rw[hs _ (dc WT jB h5) (dc WT jB h6) (dc WT jB h7)];exact h
 exact⟨ok,kind _ _ _ jB jB jB jB hR.root,kind _ _ _ jB jB jB jB hR.row,h1,h2,h3,kind _ _ _ jB jB jB jB hR.outs,hR.len,fun k hk=> ⟨kind _ _ _ jB jB jB jB (hR.call k hk).var,kind _ _ _ jB jB jB jB (hR.call k hk).cH,kind _ _ _ jB jB jB jB (hR.call k hk).eN,(hR.call k hk).bd⟩,hR.nc,hR.nv,hR.bd⟩
def hL(N:NM)(h':UT)(e:UR):UR:=aZ (aZ (aZ e (hn 5 N.k) (.var 269 [.rs (hn 6 N.k) h'.flatten.length 1 h'.flatten.length,.rs (hn 7 N.k) h'.length 1 h'.length])) (hn 6 N.k) (.aD 3 1 (h'.flatten.map eI))) (hn 7 N.k) (.aD 3 1 ((lO h').map eI))
def bI.qq(hR:bI p C m N e)(Vk:aR eo rest=true)(hr:r0.all eo=true)(hc:ab P f (.pt 2 0 0 0::rest) (gU m.heap) fun r l=>r=r0/\l=gU h') :
  bI p C { m with heap:=h' } N (hL N h' e)/\Up X e (hL N h' e)/\cM P f (.pt (hn 5 N.k) 0 0 0::rest) e r0 (hL N h' e):=by
 unfold hL;have a1:hn 5 N.k≠hn 6 N.k:=dc jB jB jB;have a2:hn 5 N.k≠hn 7 N.k:=dc jB jB jB;have a3:hn 6 N.k≠hn 7 N.k:=dc jB jB jB;have q6:pN 2 3 4 (hn 5 N.k) (hn 6 N.k) (hn 7 N.k) 2=hn 5 N.k:=rfl;have q7:pN 2 3 4 (hn 5 N.k) (hn 6 N.k) (hn 7 N.k) 3=hn 6 N.k:=rfl;have q8:pN 2 3 4 (hn 5 N.k) (hn 6 N.k) (hn 7 N.k) 4=hn 7 N.k:=rfl;have ea:fb (pN 2 3 4 (hn 5 N.k) (hn 6 N.k) (hn 7 N.k)) (.pt 2 0 0 0::rest)=.pt (hn 5 N.k) 0 0 0::rest:=by simp only[fb,AV.bV,q6,sN _ Vk]
 have el:gB e (lF (pN 2 3 4 (hn 5 N.k) (hn 6 N.k) (hn 7 N.k)) (gU h'))=aZ (aZ (aZ e (hn 5 N.k) (.var 269 [.rs (hn 6 N.k) h'.flatten.length 1 h'.flatten.length,.rs (hn 7 N.k) h'.length 1 h'.length])) (hn 6 N.k) (.aD 3 1 (h'.flatten.map eI))) (hn 7 N.k) (.aD 3 1 ((lO h').map eI)):=by simp only[gU,lF,List.map_cons,List.map_nil,gB,q6,q7,q8,Row.bV,fb,AV.bV,vv (enc:=eI) (sz:=1)]
 have i0:=fV hR.hp;have i1:=fV hR.cells;have i2:=fV hR.ends;have no:∀l:UU,aR eo ((l.map eI).flatten)=true:=fun l=>pW (oJ (enc:=eI) (sz:=1) _)
 have Y9:bI p C { m with heap:=h' } N (aZ (aZ (aZ e (hn 5 N.k) (.var 269 [.rs (hn 6 N.k) h'.flatten.length 1 h'.flatten.length,.rs (hn 7 N.k) h'.length 1 h'.length])) (hn 6 N.k) (.aD 3 1 (h'.flatten.map eI))) (hn 7 N.k) (.aD 3 1 ((lO h').map eI))):=by
  refine hR.ov ?_ ?_ ?_ ?_ fun j n0 n1 n2=>?_
  ·refine((hR.ok.put (.inr (iJ _ _)) ?_).put (.inr (iJ _ _)) ?_).put (.inr (iJ _ _)) ?_
   ·simp only[Row.cells,aR,AV.all,i1,i2,Bool.or_true,Bool.and_self]
   ·exact fR (fun _ h=>by cases h) _ (no _)
   ·exact fR (fun _ h=>by cases h) _ (no _)
  ·rw[bO,if_neg a2,bO,if_neg a1,bO,if_pos rfl]
  ·rw[bO,if_neg a3,bO,if_pos rfl]
  ·rw[bO,if_pos rfl]
  ·rw[bO,if_neg n2,bO,if_neg n1,bO,if_neg n0]
 have hup:Up X e (aZ (aZ (aZ e (hn 5 N.k) (.var 269 [.rs (hn 6 N.k) h'.flatten.length 1 h'.flatten.length,.rs (hn 7 N.k) h'.length 1 h'.length])) (hn 6 N.k) (.aD 3 1 (h'.flatten.map eI))) (hn 7 N.k) (.aD 3 1 ((lO h').map eI))):=by
  refine((Up.put _ (.inl ?_)).trans (Up.put _ (.inl ?_))).trans (Up.put _ (.inl ?_))
  ·rw[hR.hp];simp
  ·rw[bO,if_neg (fun e=>a1 e.symm),hR.cells];simp
  ·rw[bO,if_neg (fun e=>a3 e.symm),bO,if_neg (fun e=>a2 e.symm),hR.ends];simp
 refine⟨Y9,hup,⟨?_,hR.ok,Y9.ok,hup.aU,?_⟩⟩
 ·rw[<-ea,<-el];refine(ab.at (e:=e) (D0 a1 a2 a3) hc (fun i r h=>?_) ?_ (fun i r h=>?_) ?_ (fun i h=>h)).mono fun r l ⟨e1,e2⟩=>⟨by rw[e1,vW _ hr],e2⟩
  ·simp only[gU,az]at h;split at h
   ·rename_i ei;subst ei;cases h;rw[q6,hR.hp];simp only[Row.bV,fb,AV.bV,q7,q8]
   ·split at h
    ·rename_i ei;subst ei;cases h;rw[q7,hR.cells];simp only[Row.bV,vv (enc:=eI) (sz:=1)]
    ·split at h
     ·rename_i ei;subst ei;cases h;rw[q8,hR.ends];simp only[Row.bV,vv (enc:=eI) (sz:=1)]
     ·cases h
  ·simp only[aR,Bool.and_eq_true];exact⟨rfl,fR (fun _ h=>by cases h) _ Vk⟩
  ·simp only[gU,az]at h;split at h
   ·cases h;rfl
   ·split at h
    ·cases h;exact fR (q:=eo) (fun _ h=>by cases h) _ (no _)
    ·split at h
     ·cases h;exact fR (q:=eo) (fun _ h=>by cases h) _ (no _)
     ·cases h
  ·show([2,3,4]:UW).Nodup;decide
 ·simp only[aR,Bool.and_eq_true];exact⟨i0,fR (fun _ h=>by cases h) _ Vk⟩
def bI.tP(hR:bI p C m N e)(Vk:aR eo rest=true)(hr:r0.all eo=true)(hc:ab P f (.pt 2 0 0 0::rest) (gU m.heap) fun r l=>r=r0/\l=gU h') :
  lf P f (.pt (hn 5 N.k) 0 0 0::rest) e X r0 fun N' l=>bI p C { m with heap:=h' } N' l/\N'.k=N.k/\N'.ai.c=N.ai.c:=by
 obtain⟨h2,h3,h4⟩:=hR.qq (X:=X) Vk hr hc;exact⟨_,_,⟨h2,rfl,rfl⟩,h3,h4⟩
def bI.lz(hR:bI p C m N e)(Vk:aR eo rest=true)(hr:r0.all eo=true)(hc:ab P f (.pt 2 0 0 0::rest) (gU m.heap) fun r l=>r=r0/\l=gU m.heap):cM P f (.pt (hn 5 N.k) 0 0 0::rest) e r0 e:=by
 obtain⟨h2,h3,h4⟩:=hR.qq (X:=[]) (h':=m.heap) Vk hr hc;have el:hL N m.heap e=e:=by unfold hL;rw[uf hR.hp,uf hR.cells,uf hR.ends]
 rw[el]at h4;exact h4
end MV
def iN.fz{r:AV}{H:Hp}(i j k:Nat)(e:UY)(sz:Nat){t:UY}{cs:US}(hi:H.get i=none)(h0:0<sz)(hj:H.get j=some (.var t cs))(hk:cs[k]?=some (.raw (.slice none 0 0))):iN r H r ((H.put i (.aD e sz [])).put j (.var t (cs.set k (.rs i 0 sz 0)))):=fun w v h1 h2=>by
 obtain⟨a,b⟩:=yc h1 hi e h0;have hij:j≠i:=fun e=>by subst e;rw[hi]at hj;cases hj
 obtain⟨a',b'⟩:=C2 (cs':=cs.set k (.rs i 0 sz 0)) a (j:=j) (t:=t) (cs:=cs) (by rw[Hp.bj,if_neg hij];exact hj) jE fun n x x' v hx Vr hv=>by
  rw[List.getElem?_set]at Vr;by_cases hn:k=n
  ·subst hn;rw[if_pos rfl]at Vr;split at Vr
   ·cases Vr;rw[hk]at hx;cases hx;cases hv;exact .iH _ _ _ _ (NW.ci _ _ _ _)
   ·cases Vr
  ·rw[if_neg hn,hx]at Vr;cases Vr;exact hv
 exact⟨w.name i 0 .nil,rfl,a',h2.ext b,(b.trans b').qA⟩
abbrev mP(N:NM):AV:=.pt (hn 3 N.k) 0 0 0
abbrev cP(N:NM):AV:=.pt (hn 0 N.ai.c) 0 0 0
def To(p:ah)(C:aE)(m':MV)(N:NM)(N':NM)(l:UR):Prop:=MV.bI p C m' N' l/\N'.k=N.k/\N'.ai.c=N.ai.c
def NM.pop(N:NM):NM:={ N with cs:=N.cs.take (N.cs.length-1),cj:=N.ai.c::N.cj }
def NM.oc(N:NM)(j:Nat):NM:={ N with cs:=N.cs++[⟨j,j,[]⟩],cj:=N.cj.drop 1 }
namespace MV
variable {p:ah}{C:aE}{m:MV}{N:NM}{e:UR}
def bI.gC(hR:bI p C m N e){e':UR}(h:∀j,j∈ids e->j∈ids e')(m':MV)(N':NM)(hk:N'.k=N.k):aR (fun j=>(ids e').contains j) (mE p C m' N')=true:=by have c4:=List.contains_iff_mem.2 (h _ (List.contains_iff_mem.1 (fV hR.row)));have c5:=List.contains_iff_mem.2 (h _ (List.contains_iff_mem.1 (fV hR.hp)));have c8:=List.contains_iff_mem.2 (h _ (List.contains_iff_mem.1 (fV hR.outs)));have up:aR (fun j=>(ids e').contains j) (kD p)=true:=fR (q:=eo) (fun _ h=>by cases h) _ rfl;unfold mE;rw[s9,up,hk];simp only[aR,AV.all,c4,c5,c8,Bool.and_self,aO]
def Om(h1:1<=N.cs.length):N.pop.cs.map NC.c++N.pop.cj=N.cs.map NC.c++N.cj:=by
 show(N.cs.take (N.cs.length-1)).map NC.c++(N.ai.c::N.cj)=_;have e1:N.cs.take (N.cs.length-1)++[N.ai]=N.cs:=by unfold NM.ai;rw[ee jB,List.take_append_getElem,show N.cs.length-1+1=N.cs.length from jB,List.take_length]
 have:(N.cs.take (N.cs.length-1)).map NC.c++(N.ai.c::N.cj)=((N.cs.take (N.cs.length-1)++[N.ai]).map NC.c)++N.cj:=jE;rw[this,e1]
def bI.xZ(hR:bI p C m N e)(h1:1<=m.calls.length){m':MV}(hc:m'.calls=m.calls.take (m.calls.length-1))(h2:m'.heap=m.heap)(h3:m'.aS=m.aS):bI p C m' N.pop (aZ e (hn 3 N.k) (.var 205 (mE p C m' N.pop))):=by
 have hl:=hR.len;have kind:∀(a k:Nat) (r:Row),a≠3->a<32->az e (hn a k)=some r->az (aZ e (hn 3 N.k) (.var 205 (mE p C m' N.pop))) (hn a k)=some r:=fun a k r h3 WT h=>by rw[bO,if_neg (dc WT jB h3)];exact h
 have lt:(N.cs.take (N.cs.length-1)).length=N.cs.length-1:=by rw[List.length_take];omega
 have ml:m'.calls.length=m.calls.length-1:=by rw[hc,List.length_take];omega
 refine⟨hR.ok.put (.inr (iJ _ _)) ?_,by show az _ (hn 3 N.k)=_;rw[bO,if_pos rfl],?_,?_,?_,?_,?_,by rw[ml,<-hl];exact lt,fun k hk=>?_,?_,?_,?_⟩
 ·exact fR (fun j hj=>by rw[Bool.or_eq_true];exact .inr hj) _ (hR.gC (fun _ h=>h) m' N.pop rfl)
 ·rw[Om jB];exact kind _ _ _ jB jB hR.row
 ·rw[h2];exact kind _ _ _ jB jB hR.hp
 ·rw[h2];exact kind _ _ _ jB jB hR.cells
 ·rw[h2];exact kind _ _ _ jB jB hR.ends
 ·rw[h3];exact kind _ _ _ jB jB hR.outs
 ·rw[ml]at hk;have V7:=hR.call k jB;have e1:nth m'.calls k=nth m.calls k:=by
   rw[hc];unfold nth;rw[List.getD_eq_getElem?_getD,List.getElem?_take,if_pos hk,List.getD_eq_getElem?_getD]
  have e2:nth N.pop.cs k=nth N.cs k:=by show nth (N.cs.take _) k=_;unfold nth;rw[List.getD_eq_getElem?_getD,List.getElem?_take,jP,List.getD_eq_getElem?_getD]
  rw[e1,e2];exact⟨kind _ _ _ jB jB V7.var,kind _ _ _ jB jB V7.cH,kind _ _ _ jB jB V7.eN,V7.bd⟩
 ·show((N.cs.take _).map NC.c).Nodup;rw[List.map_take];exact(List.take_sublist _ _).nodup hR.nc
 ·show((N.cs.take _).map NC.v).Nodup;rw[List.map_take];exact(List.take_sublist _ _).nodup hR.nv
 ·show(N.cs.take _).length+(N.ai.c::N.cj).length<=1000;have:=hR.bd;rw[lt,List.length_cons];omega
def oe(p:ah)(C:aE)(m':MV)(N:NM)(c':MC)(j:Nat)(e:UR):UR:=
 aZ (aZ (aZ (aZ (aZ e (hn 1 j) (.aD 54 3 (c'.slots.map bW))) (hn 2 j) (.aD 54 3 (c'.stack.map bW))) (hn 0 j) (.var 217 (cE c' ⟨j,j,[]⟩))) (hn 4 N.k) (.aD 213 1 (((N.oc j).cs.map NC.c++(N.oc j).cj).map fun j=>[.pt (hn 0 j) 0 0 0]))) (hn 3 N.k) (.var 205 (mE p C m' (N.oc j)))
def bI.Dc(hR:bI p C m N e)(h8:m.calls.length<=100){m':MV}{c':MC}{j:Nat}(hc:m'.calls=m.calls++[c'])(h2:m'.heap=m.heap)(h3:m'.aS=m.aS)(j0:az e (hn 0 j)=none)(j1:az e (hn 1 j)=none)(j2:az e (hn 2 j)=none)(hb:c'.stack.length<=2000) :
  bI p C m' (N.oc j) (oe p C m' N c' j e):=by
 have hl:=hR.len;have no:∀l:List aj,aR eo ((l.map bW).flatten)=true:=fun l=>pW (oJ (enc:=bW) (sz:=3) _)
 have kind:∀(a k:Nat) (r:Row),a<32->(hn a k≠hn 1 j)->(hn a k≠hn 2 j)->(hn a k≠hn 0 j)->a≠4->a≠3->az e (hn a k)=some r->az (oe p C m' N c' j e) (hn a k)=some r:=fun a k r WT n1 n2 n0 h4 h3 h=>by unfold oe;rw[bO,if_neg (dc WT jB h3),bO,if_neg (dc WT jB h4),bO,if_neg n0,bO,if_neg n2,bO,if_neg n1];exact h
 have pL:∀(a k:Nat) (r:Row),a<32->4<a->az e (hn a k)=some r->az (oe p C m' N c' j e) (hn a k)=some r:=fun a k r WT h4 h=>kind a k r WT (dc WT jB jB) (dc WT jB jB) (dc WT jB jB) jB jB h
 have ml:m'.calls.length=m.calls.length+1:=by rw[hc];simp
 have nl:(N.oc j).cs.length=N.cs.length+1:=by show(N.cs++[_]).length=_;simp
 refine⟨?_,by show az _ (hn 3 N.k)=_;unfold oe;rw[bO,if_pos rfl],by show az _ (hn 4 N.k)=_;unfold oe;rw[bO,if_neg (dc jB jB jB),bO,if_pos rfl],by rw[h2];exact pL 5 _ _ jB jB hR.hp,by rw[h2];exact pL 6 _ _ jB jB hR.cells,by rw[h2];exact pL 7 _ _ jB jB hR.ends,by rw[h3];exact pL 8 _ _ jB jB hR.outs,by rw[nl,ml,hl],fun k hk=>?_,?_,?_,?_⟩
 ·unfold oe;have k1:=((hR.ok.put (i:=hn 1 j) (r:=.aD 54 3 (c'.slots.map bW)) (.inr (iJ _ _)) (fR (fun _ h=>by cases h) _ (no _))).put (i:=hn 2 j) (r:=.aD 54 3 (c'.stack.map bW)) (.inr (iJ _ _)) (fR (fun _ h=>by cases h) _ (no _)));have m1:∀x,x∈ids e->x∈ids (aZ (aZ e (hn 1 j) (.aD 54 3 (c'.slots.map bW))) (hn 2 j) (.aD 54 3 (c'.stack.map bW))):=fun x hx=>(pc _ _ _ _).2 (.inr ((pc _ _ _ _).2 (.inr hx)))
  have i1:hn 1 j∈ids (aZ (aZ e (hn 1 j) (.aD 54 3 (c'.slots.map bW))) (hn 2 j) (.aD 54 3 (c'.stack.map bW))):=(pc _ _ _ _).2 (.inr ((pc _ _ _ _).2 (.inl rfl)));have i2:hn 2 j∈ids (aZ (aZ e (hn 1 j) (.aD 54 3 (c'.slots.map bW))) (hn 2 j) (.aD 54 3 (c'.stack.map bW))):=(pc _ _ _ _).2 (.inl rfl);generalize aZ (aZ e (hn 1 j) (.aD 54 3 (c'.slots.map bW))) (hn 2 j) (.aD 54 3 (c'.stack.map bW))=e1 at k1 m1 i1 i2;rw[<-List.contains_iff_mem]at i1 i2;have k2:=k1.put (i:=hn 0 j) (r:=.var 217 (cE c' ⟨j,j,[]⟩)) (.inr (iJ _ _)) (by simp only[Row.cells,cE,aR,AV.all,i1,i2,Bool.or_true,Bool.and_self]);have m2:∀x,x∈ids e->x∈ids (aZ e1 (hn 0 j) (.var 217 (cE c' ⟨j,j,[]⟩))):=fun x hx=>(pc _ _ _ _).2 (.inr (m1 x hx))
  have i0:hn 0 j∈ids (aZ e1 (hn 0 j) (.var 217 (cE c' ⟨j,j,[]⟩))):=(pc _ _ _ _).2 (.inl rfl);generalize aZ e1 (hn 0 j) (.var 217 (cE c' ⟨j,j,[]⟩))=e2 at k2 m2 i0;have hold:∀x∈N.cs.map NC.c++N.cj,hn 0 x∈ids e:=fun x hx=>by have:=DI (hR.ok.closed _ _ hR.row) [.pt (hn 0 x) 0 0 0] (List.mem_map.2 ⟨x,hx,rfl⟩);simp only[aR,AV.all,Bool.and_true]at this;exact List.contains_iff_mem.1 this
  have Yh:∀x∈(N.oc j).cs.map NC.c++(N.oc j).cj,hn 0 x∈ids e2:=fun x hx=>by
   have hx:x∈(N.cs++[(⟨j,j,[]⟩:NC)]).map NC.c++N.cj.drop 1:=hx;rw[List.map_append]at hx;simp only[List.mem_append,List.map_cons,List.map_nil,List.mem_singleton]at hx;rcases hx with(hx|rfl)|hx
   ·exact m2 _ (hold x (List.mem_append_left _ hx))
   ·exact i0
   ·exact m2 _ (hold x (List.mem_append_right _ (List.mem_of_mem_drop hx)))
  have k3:=k2.put (i:=hn 4 N.k) (r:=.aD 213 1 (((N.oc j).cs.map NC.c++(N.oc j).cj).map fun j=>[.pt (hn 0 j) 0 0 0])) (.inr (iJ _ _)) (pW fun y hy=>by obtain⟨x,hx,rfl⟩:=List.mem_map.1 hy;have:=List.contains_iff_mem.2 (Yh x hx);simp only[aR,AV.all,this,Bool.or_true,Bool.and_self])
  refine k3.put (.inr (iJ _ _)) ?_;exact fR (fun j hj=>by rw[Bool.or_eq_true];exact .inr hj) _ (hR.gC (fun x hx=>(pc _ _ _ _).2 (.inr (m2 x hx))) m' (N.oc j) rfl)
 ·rw[ml]at hk;by_cases Va:k<m.calls.length
  ·have V7:=hR.call k Va;have e1:nth m'.calls k=nth m.calls k:=by rw[hc,qf Va]
   have e2:nth (N.oc j).cs k=nth N.cs k:=by show nth (N.cs++_) k=_;rw[qf jB]
   have q0:hn 0 (nth N.cs k).c≠hn 0 j:=fun e'=>by rw[<-e',V7.var]at j0;cases j0
   have q1:hn 1 (nth N.cs k).c≠hn 1 j:=fun e'=>by rw[<-e',V7.eN]at j1;cases j1
   have q2:hn 2 (nth N.cs k).v≠hn 2 j:=fun e'=>by rw[<-e',V7.cH]at j2;cases j2
   rw[e1,e2];exact⟨kind _ _ _ jB (dc jB jB jB) (dc jB jB jB) q0 jB jB V7.var,kind _ _ _ jB (dc jB jB jB) q2 (dc jB jB jB) jB jB V7.cH,kind _ _ _ jB q1 (dc jB jB jB) (dc jB jB jB) jB jB V7.eN,V7.bd⟩
  ·have ek:k=m.calls.length:=jB;subst ek;have e1:nth m'.calls m.calls.length=c':=by rw[hc,qM]
   have e2:nth (N.oc j).cs m.calls.length=⟨j,j,[]⟩:=by show nth (N.cs++[_]) _=_;rw[<-hl,qM]
   rw[e1,e2];refine⟨?_,?_,?_,by show c'.stack.length+0<=2000;omega⟩
   ·unfold oe;rw[bO,if_neg (dc jB jB jB),bO,if_neg (dc jB jB jB),bO,if_pos rfl]
   ·unfold oe;rw[bO,if_neg (dc jB jB jB),bO,if_neg (dc jB jB jB),bO,if_neg (dc jB jB jB),bO,if_pos rfl,List.append_nil]
   ·unfold oe;rw[bO,if_neg (dc jB jB jB),bO,if_neg (dc jB jB jB),bO,if_neg (dc jB jB jB),bO,if_neg (dc jB jB jB),bO,if_pos rfl]
 ·show((N.cs++[(⟨j,j,[]⟩:NC)]).map NC.c).Nodup;rw[List.map_append,List.nodup_append];refine⟨hR.nc,jE,fun a ha b hb e'=>?_⟩;have hb:b=j:=by simpa using hb
  obtain⟨x,hx,rfl⟩:=List.mem_map.1 ha;obtain⟨k,hk,rfl⟩:=List.getElem_of_mem hx;have:=(hR.call k jB).var;rw[ee jB,e',hb,j0]at this;cases this
 ·show((N.cs++[(⟨j,j,[]⟩:NC)]).map NC.v).Nodup;rw[List.map_append,List.nodup_append];refine⟨hR.nv,jE,fun a ha b hb e'=>?_⟩;have hb:b=j:=by simpa using hb
  obtain⟨x,hx,rfl⟩:=List.mem_map.1 ha;obtain⟨k,hk,rfl⟩:=List.getElem_of_mem hx;have:=(hR.call k jB).cH;rw[ee jB,e',hb,j2]at this;cases this
 ·show(N.cs++[_]).length+(N.cj.drop 1).length<=1000;have:=hR.bd;rw[List.length_append,List.length_drop,List.length_singleton];omega
end MV
end Go.Gd
namespace Go.Proofs.YtjpcgmjaipfgdaaGreatDoor
open Go Go.Gd Tryz
def BT(st:Ck->Int->Ck){c:Ck}(h:c.e≠0):∀l,dh st c l=c
 |[]=>rfl
 |a::l=>by unfold dh;rw[if_neg h]
theorem Co{t:aB}{st:Ck->Int->Ck}{S:List UX->Int->Prop}(O':∀c a,bz c->c.aa=t->c.e=0->(st c a).e=0->bz (st c a)/\(st c a).aa=t/\S (dR c.vars) a/\dR (st c a).vars=sZ t (dR c.vars) a):∀(l:UU) (c:Ck),bz c->c.aa=t->c.e=0->(dh st c l).e=0->wz t S (dR c.vars) l
 |[],c,_,_,_,_=>trivial
 |a::l,c,h,hc,he,h0=>by
  unfold dh at h0;rw[if_pos he]at h0;have h1:(st c a).e=0:=by
   by_cases e:(st c a).e=0
   ·exact e
   ·rw[BT st e]at h0;exact h0
  obtain⟨i1,i2,i3,i4⟩:=O' c a h hc he h1;exact⟨i3,by rw[<-i4];exact Co O' l _ i1 i2 h1 h0⟩
variable{ex:Ck->Int->Ck×Int}
def Lt(hex:∀c a,Ev c (ex c a).1){c:Ck}{a:Int}(h:(oz ex c a).e=0):(c.node a).name ∉ dR c.vars/\dR (oz ex c a).vars=dR c.vars++[(c.node a).name]:=by
 have evc:=xw hex c a;have eva:=Ai hex c a;have hc:(dX ex c a).e=0:=h;have hb:(jn ex c a).e=0:=by
  unfold dX at hc;split at hc
  ·unfold Ck.aA at hc;split at hc
   ·exact absurd (show(4:Int)=0 from hc) jC
   ·rename_i e;exact(e hc).elim
  ·exact hc
 have hf:¬0<=(iK ex c a).find (c.node a).name:=fun e=>by
  unfold jn at hb;rw[if_pos e]at hb;unfold Ck.aA at hb;split at hb
  ·exact absurd (show(41:Int)=0 from hb) jC
  ·rename_i e;exact(e hb).elim
 refine⟨fun hm=>?_,?_⟩
 ·unfold Ck.find at hf;rw[eva.vars]at hf;rcases vy ba.name (c.node a).name c.vars 0 (Int.le_refl _)with⟨_,e⟩|⟨e,_⟩
  ·obtain⟨v,hv,e2⟩:=List.mem_map.1 hm;exact e v hv e2
  ·exact hf e
 ·rw[sW];show dR ((dX ex c a).vars++[_])=_;rw[evc.vars];unfold dR;rw[List.map_append];rfl
def Sw(hex:∀c a,Ev c (ex c a).1)(c:Ck)(a:Int):Ev c (j5 ex c a):=by
 unfold j5;simp only;split
 ·exact nR c jC a
 split
 ·exact(hex c _).trans (jd _ _ _)
 ·exact .refl c
theorem J1{st:Ck->Int->Ck}(O':∀c a,bz c->c.e=0->Sv c (st c a)):∀(l:UU) (c:Ck),bz c->(dh (eH st) c l).vars=c.vars
 |[],c,h=>rfl
 |b::l,c,h=>by
  unfold dh;split
  ·obtain⟨s,e⟩:=pE O' h b;rw[J1 O' l _ s.inv,e]
  ·rfl
def Mg{t:aB}:∀(n:Nat) (c:Ck) (a:Int),bz c->c.aa=t->c.e=0->(bF (n+1) c a).e=0->ve t n (dR c.vars) a/\dR (bF (n+1) c a).vars=sZ t (dR c.vars) a:=fun n=>by
 induction n with
 |zero=>exact stmt_ndA 0 fun c b _ _ _ _=>trivial
 |succ m ih=>
  refine stmt_ndA (m+1) fun c b h hc he h0=>?_
  show wz t (ve t m) (dR c.vars) (nth t.nodes b.toNat).l;have h1:(dh (bF (m+1)) (c.af b) (c.node b).l).e=0:=h0;have hn:(c.node b).l=(nth t.nodes b.toNat).l:=by unfold Ck.node;rw[hc]
  rw[hn]at h1;exact Co (fun c' a h' VV X5 h0'=>by have s:=mD (m+1) c' a h' X5;obtain⟨i1,i2⟩:=ih c' a h' VV X5 h0';exact⟨s.inv,s.aa.trans VV,i1,i2⟩) (nth t.nodes b.toNat).l (c.af b) (h.ev (pO c b)) hc he h1
where
 stmt_ndA {t:aB} (n:Nat) (hbl:∀(c:Ck) (b:Int),bz c->c.aa=t->c.e=0->(eH (bF n) c b).e=0->tf t n (dR c.vars) b) (c0:Ck) (a:Int) (h:bz c0) (hc:c0.aa=t) (he:c0.e=0) (h0:(bF (n+1) c0 a).e=0):ve t n (dR c0.vars) a/\dR (bF (n+1) c0 a).vars=sZ t (dR c0.vars) a:=by
  have e0:=pO c0 a;have hI:=h.ev e0;have hx:=fa n;have hv:dR (c0.af a).vars=dR c0.vars:=rfl;have p':(c0.af a).node a=nth t.nodes a.toNat:=by show nth c0.aa.nodes a.toNat=_;rw[hc]
  have kids:∀(l:UU) (c:Ck),bz c->c.aa=t->c.e=0->(dh (eH (bF n)) c l).e=0->∀b∈l,tf t n (dR c.vars) b:=fun l=>by
   induction l with
   |nil=>intro c _ _ _ _ b hb;cases hb
   |cons x l ihl=>
    intro c h hc he h0 b hb;unfold dh at h0;rw[if_pos he]at h0;have h1:(eH (bF n) c x).e=0:=by
     by_cases e:(eH (bF n) c x).e=0
     ·exact e
     ·rw[BT _ e]at h0;exact h0
    obtain⟨s,ev⟩:=pE (fun q b hq he=>mD n q b hq he) h x;rcases List.mem_cons.1 hb with rfl|hb
    ·exact hbl c b h hc he h1
    ·have:=ihl _ s.inv (s.aa.trans hc) h1 h0 b hb;rw[ev]at this;exact this
  unfold bF at h0 ⊢;simp only[p']at h0 ⊢;unfold ve sZ;generalize hk:(nth t.nodes a.toNat).kind=k at*;by_cases k10:k=10
  ·subst k10;rw[if_pos rfl]at h0 ⊢;obtain⟨i1,i2⟩:=Lt hx h0;rw[p']at i1 i2;rw[if_pos rfl];exact⟨⟨fun _=>i1,fun e=>by rcases e with e|e<;>exact absurd e jC⟩,i2⟩
  rw[if_neg k10]at h0 ⊢;rw[if_neg k10];have fin:∀{c':Ck},Ev (c0.af a) c'->¬(k=15\/k=16)->((k=10->(nth t.nodes a.toNat).name ∉ dR c0.vars)/\(k=15\/k=16->∀b∈(nth t.nodes a.toNat).l.drop 1,tf t n (dR c0.vars) b))/\dR c'.vars=dR c0.vars:=fun ev hn=>⟨⟨fun e=>(k10 e).elim,fun e=>(hn e).elim⟩,by rw[ev.vars];rfl⟩
  by_cases k11:k=11
  ·rw[if_pos k11]at h0 ⊢;exact fin (((nn _ a).trans (hx _ _)).trans (jd _ _ _)) jB
  rw[if_neg k11]at h0 ⊢;by_cases k12:k=12
  ·rw[if_pos k12]at h0 ⊢;exact fin ((((nn _ a).trans (hx _ _)).trans (hx _ _)).trans (jd _ _ _)) jB
  rw[if_neg k12]at h0 ⊢;by_cases k13:k=13
  ·rw[if_pos k13]at h0 ⊢;exact fin (hx _ _) jB
  rw[if_neg k13]at h0 ⊢;by_cases k14:k=14
  ·rw[if_pos k14]at h0 ⊢;exact fin ((hx _ _).trans (jd _ _ _)) jB
  rw[if_neg k14]at h0 ⊢;by_cases k17:k=17
  ·rw[if_pos k17]at h0 ⊢;exact fin (Sw hx _ _) jB
  rw[if_neg k17]at h0 ⊢;have ev:=(hx (c0.af a) ((c0.af a).aC a 0)).trans (jd (ay n (c0.af a) ((c0.af a).aC a 0)).1 (decide ((ay n (c0.af a) ((c0.af a).aC a 0)).2=2)) a);have h1:=hI.ev ev;refine⟨⟨fun e=>(k10 e).elim,fun _=>?_⟩,?_⟩
  ·have e1:((ay n (c0.af a) ((c0.af a).aC a 0)).1.ao (decide ((ay n (c0.af a) ((c0.af a).aC a 0)).2=2)) a).e=0:=by
    by_cases e:((ay n (c0.af a) ((c0.af a).aC a 0)).1.ao (decide ((ay n (c0.af a) ((c0.af a).aC a 0)).2=2)) a).e=0
    ·exact e
    ·rw[BT _ e]at h0;exact h0
   have:=kids _ _ h1 (ev.aa.trans hc) e1 h0;rw[ev.vars]at this;exact this
  ·rw[J1 (fun q b hq he=>mD n q b hq he) _ _ h1,ev.vars];rfl
theorem I6(body:Int):∀(ps:List bp) (c:Ck) (i:Int),(eD body c ps i).e=0->(dR c.vars).Nodup->c.e=0/\(dR (eD body c ps i).vars).Nodup/\dR (eD body c ps i).vars=dR c.vars++ps.map bp.name
 |[],c,i,h,hn=>⟨h,hn,by show dR c.vars=dR c.vars++[];rw[List.append_nil]⟩
 |p::ps,c,i,h,hn=>by
  unfold eD at h ⊢;simp only at h ⊢;by_cases e:0<=c.find p.name
  ·rw[if_pos e]at h;have hex:(mN (c.aA 41 body) ⟨p.name,p.ty,i⟩).e≠0:=by
    show(c.aA 41 body).e≠0;unfold Ck.aA;split
    ·show(41:Int)≠0;decide
    ·assumption
   have key:∀(ps:List bp) (c:Ck) (i:Int),c.e≠0->(eD body c ps i).e≠0:=fun ps=>by
    induction ps with
    |nil=>intro c i h;exact h
    |cons p ps ih=>
     intro c i h;unfold eD;simp only;refine ih _ _ ?_;split
     ·show(c.aA 41 body).e≠0;unfold Ck.aA;rw[if_neg h];exact h
     ·exact h
   exact(key ps _ _ hex h).elim
  ·rw[if_neg e]at h ⊢;have hbh:p.name ∉ dR c.vars:=fun hm=>by
    unfold Ck.find at e;rcases vy ba.name p.name c.vars 0 (Int.le_refl _)with⟨_,e2⟩|⟨e2,_⟩
    ·obtain⟨v,hv,e3⟩:=List.mem_map.1 hm;exact e2 v hv e3
    ·exact e e2
   have hv:dR (c.vars++[(⟨p.name,p.ty,i⟩:ba)])=dR c.vars++[p.name]:=by unfold dR;rw[List.map_append];rfl
   obtain⟨i1,i2,i3⟩:=I6 body ps _ (i+1) h (by
    show(dR (c.vars++[_])).Nodup;rw[hv];exact List.nodup_append.2 ⟨hn,jE,fun x hx y hy=>by rw[List.mem_singleton.1 hy];exact fun e=>hbh (e ▸ hx)⟩)
   refine⟨i1,i2,?_⟩;rw[i3];show dR (c.vars++[_])++_=_;rw[hv];simp
def qV(t:aB)(f:aV):Prop:=(f.params.map bp.name).Nodup/\tf t t.nodes.length (f.params.map bp.name) f.body
def LW{t:aB}{c:Ck}(h:fM c)(hc:c.aa=t){k:Nat}(hk:k<t.ak.length)(Vb:c.aJ.length<6)(h0:(gf c k).e=0):qV t (nth t.ak k):=by
 have hp3:=(h.aa.fn _ (cV (by rw[hc];exact hk:k<c.aa.ak.length))).2;have Xi:bz { c with fn:=(k:Int),vars:=[],more:=[],size:=0 }:=⟨h.aa,h.types,h.slots,h.ak,by show c.aJ.length<=6;omega,by show(0:Int)<=k;omega,by show(k:Int)<(c.aa.ak.length:Int);rw[hc];omega,by show((0:Nat):Int)<=0;omega,by show(0:Int)<=25;decide,fun _=>by show(0:Int)<=24;decide⟩;obtain⟨a,b,d⟩:=xN (nth c.aa.ak k).body (nth c.aa.ak k).params _ 0 Xi (by show(0:Int)+_<=20;omega);have WQ:=b;unfold gf at h0;simp only at h0;by_cases e:(eD (nth c.aa.ak k).body { c with fn:=(k:Int),vars:=[],more:=[],size:=0 } (nth c.aa.ak k).params 0).e=0
 ·rw[if_pos e]at h0;obtain⟨_,i2,i3⟩:=I6 _ _ _ _ e List.nodup_nil;have i3:dR (eD (nth c.aa.ak k).body { c with fn:=(k:Int),vars:=[],more:=[],size:=0 } (nth c.aa.ak k).params 0).vars=(nth c.aa.ak k).params.map bp.name:=i3;rw[i3]at i2;generalize eD (nth c.aa.ak k).body { c with fn:=(k:Int),vars:=[],more:=[],size:=0 } (nth c.aa.ak k).params 0=c1 at*;have VC:c1.aa=t:=b.trans hc;subst hc;refine⟨i2,?_⟩;rw[<-i3];cases hn:c.aa.nodes.length with
  |zero=>trivial
  |succ m=>
   rw[hn]at h0;show wz c.aa (ve c.aa m) (dR c1.vars) (nth c.aa.nodes (nth c.aa.ak k).body.toNat).l;have h1:(dh (bF (m+1)) (c1.af (nth c.aa.ak k).body) (c1.node (nth c.aa.ak k).body).l).e=0:=h0;have Xz:(c1.node (nth c.aa.ak k).body).l=(nth c.aa.nodes (nth c.aa.ak k).body.toNat).l:=by unfold Ck.node;rw[VC]
   rw[Xz]at h1;exact Co (t:=c.aa) (S:=ve c.aa m) (fun c' a h' VV X5 h0'=>by have s:=mD (m+1) c' a h' X5;obtain⟨i1,i2⟩:=Mg m c' a h' VV X5 h0';exact⟨s.inv,s.aa.trans VV,i1,i2⟩) _ (c1.af (nth c.aa.ak k).body) (a.ev (pO c1 _)) VC e h1
 ·rw[if_neg e]at h0;exact(e h0).elim
theorem IK{t:aB}(ht:aM t):∀(n i:Nat) (c:Ck),fM c->c.aa=t->c.aJ.length=i->i+n=t.ak.length->(fS c i n).e=0->(fS c i n).aa=t/\∀j,i<=j->j<t.ak.length->qV t (nth t.ak j)
 |0,i,c,h,hc,hs,hi,he=>⟨hc,fun j h1 h2=>by omega⟩
 |n+1,i,c,h,hc,hs,hi,he=>by
  have h6:=ht.ak;unfold fS at he ⊢;by_cases e0:c.e=0
  ·rw[if_pos e0]at he ⊢;have hk:i<t.ak.length:=jB;obtain⟨f1,f2,f3⟩:=Ac h (by rw[hc];exact hk) (by omega:c.aJ.length<6);have e1:(gf c i).e=0:=by
    cases n with
    |zero=>unfold fS at he;exact he
    |succ m=>
     unfold fS at he;split at he
     ·assumption
     ·exact he
   have g:=LW h hc hk jB e1;obtain⟨r1,r2⟩:=IK ht n (i+1) (gf c i) f1 (f2.trans hc) jB jB he;refine⟨r1,fun j h1 h2=>?_⟩;by_cases hj:j=i
   ·subst hj;exact g
   ·exact r2 j jB h2
  ·rw[if_neg e0]at he;exact(e0 he).elim
def P3{t:aB}(ht:aM t)(he:(gm t).2.2=0):∀j,j<(gm t).1.aa.ak.length->qV (gm t).1.aa (nth (gm t).1.aa.ak j):=by
 unfold gm at he ⊢;split at he
 ·rename_i h;exact(h he).elim
 rename_i h;rw[if_neg h];have h:(ik t).e=0:=jB;obtain⟨i1,i2,i3⟩:=DH ht;obtain⟨q1,q2⟩:=IK ht t.ak.length 0 (iV (jM t)) i1 i2 (by rw[i3];rfl) jB h;have e:(ik t).aa=t:=q1;show∀j,j<(ik t).aa.ak.length->qV (ik t).aa (nth (ik t).aa.ak j);rw[e];exact fun j hj=>q2 j (Nat.zero_le _) hj
def Nv{s:UX}(he:(fI s).2.2=0):fx (fI s).1.aa:=by
 have hp:=Ux s;have h0:fx ⟨[],[]⟩:=⟨fun x hx=>(by cases hx),fun f hf=>(by cases hf)⟩;unfold fI;split
 ·exact h0
 rename_i h;simp only;split
 ·exact h0
 split
 ·exact h0
 ·unfold gm;split
  ·exact h0
  ·show fx (ik (gu s).1).aa;rw[(F7 (tp jB)).2];exact hp
def Cx{p:ah}(VB:∀k,k<p.aa.nodes.length->0<=nth p.fn k/\nth p.fn k<p.aa.ak.length)(hn:∀j,j<p.aa.ak.length->qV p.aa (nth p.aa.ak j))(hc:fx p.aa){node:Int}(h1:node.toNat<p.aa.nodes.length):(dR (dV p node)).Nodup/\∀v∈dV p node,Cl v.name:=by
 obtain⟨f0,f1⟩:=VB _ h1;have hj:(nth p.fn node.toNat).toNat<p.aa.ak.length:=jB;have hnf:=hn _ hj;unfold dV;cases e:gv p node p.aa.nodes.length (nth p.aa.ak (nth p.fn node.toNat).toNat).body (iw (nth p.aa.ak (nth p.fn node.toNat).toNat).params 0)with
 |none=>exact⟨List.nodup_nil,fun v hv=>by cases hv⟩
 |some R=>
  refine⟨GM _ _ _ R (by rw[Ar];exact hnf.2) (by rw[Ar];exact hnf.1) e,?_⟩;refine Ja (P:=fun v=>Cl v.name) (fun x hx=>?_) _ _ _ R (fun v hv=>?_) e
  ·by_cases c:x.toNat<p.aa.nodes.length
   ·exact(hc.n _ (cV c)).1 hx
   ·have hd:nth p.aa.nodes x.toNat=default:=by unfold nth;rw[List.getD_eq_getElem?_getD,List.getElem?_eq_none jB];rfl
    have hx:(nth p.aa.nodes x.toNat).kind=10:=hx;rw[hd]at hx;exact absurd hx jC
  ·have hm:v.name∈dR (iw (nth p.aa.ak (nth p.fn node.toNat).toNat).params 0):=List.mem_map.2 ⟨v,hv,rfl⟩;rw[Ar]at hm;obtain⟨q,hq,e⟩:=List.mem_map.1 hm;rw[<-e];exact(hc.f _ (cV hj)).p q hq
def NH{p:ah}(VB:∀k,k<p.aa.nodes.length->0<=nth p.fn k/\nth p.fn k<p.aa.ak.length)(hn:∀j,j<p.aa.ak.length->qV p.aa (nth p.aa.ak j))(hc:fx p.aa){s:gM}(h1:∀c∈s.calls,c.node.toNat<p.aa.nodes.length)(h2:∀c∈s.calls,c.fn.toNat<p.aa.ak.length):VG (k7 p s):=by
 have key:∀c∈(k7 p s).calls,∃q∈s.calls,∃seen,c=⟨(nth p.aa.ak q.fn.toNat).name,(ap p q.node).bA,(jK s.heap q.slots (dV p q.node) seen).1⟩:=fun c hc=>by
  rcases Kz p s.heap s.calls ([],[]) c hc with h|h
  ·cases h
  ·exact h
 have hv:∀(q:fh) (seen:UU),((jK s.heap q.slots (dV p q.node) seen).1).map aG.name=dR (dV p q.node)/\∀x∈(jK s.heap q.slots (dV p q.node) seen).1,x.text≠(⟨#[45]⟩:UX):=fun q seen=>by obtain⟨a,b⟩:=Jl s.heap q.slots (dV p q.node) [] seen;exact⟨a,fun x hx=>(b x hx).elim (fun h=>by cases h) id⟩
 refine⟨fun c hm=>?_,fun c hm=>?_,fun c hm x hx=>?_,fun c hm x hx=>?_⟩
 ·obtain⟨q,hq,seen,rfl⟩:=key c hm;exact(hc.f _ (cV (h2 q hq))).n.not jC
 ·obtain⟨q,hq,seen,rfl⟩:=key c hm;refine TM ?_;show((jK s.heap q.slots (dV p q.node) seen).1.map aG.name).Nodup;rw[(hv q seen).1];exact(Cx VB hn hc (h1 q hq)).1
 ·obtain⟨q,hq,seen,rfl⟩:=key c hm;have Vr:x.name∈dR (dV p q.node):=by rw[<-(hv q seen).1];exact List.mem_map.2 ⟨x,hx,rfl⟩
  obtain⟨v,Ve,e⟩:=List.mem_map.1 Vr;rw[<-e];exact((Cx VB hn hc (h1 q hq)).2 v Ve).not jC
 ·obtain⟨q,hq,seen,rfl⟩:=key c hm;exact(hv q seen).2 x hx
def MG(fn at_ mark:Int)(vs jk slots:List aj)(v:aj)(hL:¬(100000<vs.length+jk.length)):ab prog 203 [.pt 6 0 0 0,rV v] (kE fn at_ mark vs jk slots) (fun r l=>r=.aY []/\l=kE fn at_ mark (vs++[v]) (jk.drop 1) slots):=by
 refine aK func203 ntmps203 ?_;refine S ?_
 (repeat' (first|refine au fun K hK=>?_|refine aq ?_|(with_reducible refine gR 1 ?_);refine dE 1 (bf 0 11) mixed ?_|(refine hK _ _ ?_;clear hK K)|(refine ar ?_ ?_<;>intro hc<;>try exact jz)|refine cL 9 ?_|refine sj vs jk [v] ?_|refine av ?_|exact jI|(clear hK K)))
 (refine bu [] ?_;try simp only[go_sem])
def He(fn at_ mark:Int)(vs jk slots:List aj)(h1:1<=vs.length)(hL:¬(100000<vs.length+jk.length)):ab prog 217 [.pt 6 0 0 0] (kE fn at_ mark vs jk slots) (fun r l=>r=rV (nth vs (vs.length-1))/\l=kE fn at_ mark vs jk slots):=by
 refine aK func217 ntmps217 ?_;refine S ?_
 (repeat' (first|refine au fun K hK=>?_|refine aq ?_|(with_reducible refine gR 1 ?_);refine dE 1 (bf 0 13) mixed ?_|(refine hK _ _ ?_;clear hK K)|(refine ar ?_ ?_<;>intro hc<;>try exact jz)|refine al 9 ?_|refine av ?_|exact jI|(clear hK K)))
 (refine bu [.cell 2 54] ?_;try simp only[go_sem])
def EM(fn at_ mark:Int)(vs jk slots:List aj)(v:aj)(hL:¬(100000<vs.length+1+jk.length)):ab prog 208 [.pt 6 0 0 0] (kE fn at_ mark (vs++[v]) jk slots) (fun r l=>r=rV v/\l=kE fn at_ mark vs (v::jk) slots):=by
 have Xj:=He fn at_ mark (vs++[v]) jk slots jE (by rw[List.length_append,List.length_singleton];omega);rw[show nth (vs++[v]) ((vs++[v]).length-1)=v by simp[nth]]at Xj;have e:(vs++[v])++jk=vs++(v::jk):=jE;have e2:((vs++[v]).length:Int)-1=vs.length:=jE;have e3:(vs++[v]).length=vs.length+1:=jE;have e4:vs.length+(v::jk).length=vs.length+1+jk.length:=by simp only[List.length_cons];omega
 unfold kE at Xj ⊢;rw[e,e3]at Xj ⊢;rw[e4];refine aK func208 ntmps208 ?_;refine S ?_
 (repeat' (first|refine au fun K hK=>?_|refine aq ?_|(with_reducible refine gR 2 ?_);refine dE 2 (bf 0 15) mixed ?_|(refine hK _ _ ?_;clear hK K)|(refine ar ?_ ?_<;>intro hc<;>try exact jz)|refine al 9 ?_|refine al 10 ?_|refine cm (Xj) ?_|refine av ?_|exact jI|(clear hK K)))
 refine bu [.cell 2 54] rfl (h2:=?_);simp[gi,mZ]
def RG(fn at_ mark:Int)(vs jk slots:List aj)(k t:Int)(hk:0<=k/\k<slots.length)(hL:¬(100000<slots.length)):ab prog 207 [.pt 6 0 0 0,rI k,rI t] (kE fn at_ mark vs jk slots) (fun r l=>r=rV (dq slots k t)/\l=kE fn at_ mark vs jk slots):=by
 refine aK func207 ntmps207 ?_;refine S ?_
 (repeat' (first|refine au fun K hK=>?_|refine aq ?_|(refine hK _ _ ?_;clear hK K)|(refine ar ?_ ?_<;>intro hc<;>try exact jz)|refine al 9 ?_|refine al 10 ?_|refine cp (Ao _) ?_|(first|refine cg (vO _) ?_|refine pP (vO _) ?_)|refine av ?_|exact jI|(clear hK K)))
 all_goals(refine bu [.cell 6 54] ?_;try simp only[go_sem])
 all_goals(unfold dq;(repeat' split)<;>first|rfl|omega|(exfalso;simp_all;done)|(simp_all;done)|skip)
end Go.Proofs.YtjpcgmjaipfgdaaGreatDoor
namespace Go.Proofs.YtjpcgmjaipfgdaaGreatDoor
open Go Go.Gd Tryz Go.Gd.MV
section
variable {p:ah}{C:aE}{m:MV}{N:NM}{e:UR}(X:UW)
def tu(hR:bI p C m N e)(h1:1<=m.calls.length)(v:aj)(hb:m.ai.stack.length<=1000):lf prog 203 [cP N,rV v] e X (.aY []) (To p C (m.push v) N):=by have WQ:=(hR.ai h1).bd;exact hR.cz h1 (c':=m.ai.push v) (jk':=N.ai.jk.drop 1) (by show(m.ai.stack++[v]).length+_<=_;rw[List.length_append,List.length_drop,List.length_singleton];omega) rfl rfl (MG _ _ _ _ _ _ v jB)
def Kg(hR:bI p C m N e)(h1:1<=m.calls.length)(hb:1<=m.ai.stack.length):lf prog 208 [cP N] e X (rV m.ai.last) (To p C (m.cut 1) N):=by
 have WQ:=(hR.ai h1).bd;have e1:m.ai.stack.take (m.ai.stack.length-1)++[m.ai.last]=m.ai.stack:=by unfold MC.last;rw[ee jB,List.take_append_getElem,show m.ai.stack.length-1+1=m.ai.stack.length from jB,List.take_length]
 have I':(m.ai.stack.take (m.ai.stack.length-1)).length=m.ai.stack.length-1:=by rw[List.length_take];omega
 have hc:=EM m.ai.fn m.ai.at_ m.ai.mark (m.ai.stack.take (m.ai.stack.length-1)) N.ai.jk m.ai.slots m.ai.last (by rw[I'];omega);rw[e1]at hc;have hb3:(m.ai.cut 1).stack.length+(m.ai.last::N.ai.jk).length<=2000:=by show(m.ai.stack.take (m.ai.stack.length-1)).length+_<=_;rw[I',List.length_cons];omega
 exact hR.cz h1 (c':=m.ai.cut 1) hb3 rfl rfl hc
def Q3(hR:bI p C m N e)(h1:1<=m.calls.length)(hb:1<=m.ai.stack.length):cM prog 217 [cP N] e (rV m.ai.last) e:=by have WQ:=(hR.ai h1).bd;exact hR.tD h1 rfl rfl (He _ _ _ _ _ _ hb jB)
def BW(hR:bI p C m N e)(h1:1<=m.calls.length)(k t:Int)(hk:0<=k/\k<m.ai.slots.length)(hb:m.ai.slots.length<=1000):cM prog 207 [cP N,rI k,rI t] e (rV (dq m.ai.slots k t)) e:=
 hR.tD h1 rfl rfl (RG _ _ _ _ _ _ k t hk jB)
def Nz(hR:bI p C m N e)(a i:Int)(hl:m.heap.length<=1000)(hf:m.heap.flatten.length<=1000):cM prog 213 [.pt (hn 5 N.k) 0 0 0,rI a,rI i] e (.aY [rI (if i<0\/((MV.bc m.heap a).length:Int)<=i then 0 else nth (MV.bc m.heap a) i.toNat),rI (if i<0\/((MV.bc m.heap a).length:Int)<=i then 2 else 0)]) e:=
 hR.lz rfl rfl (Ps m.heap a i hl hf)
def SB(hR:bI p C m N e)(a:Int)(hl:m.heap.length<=1000)(hf:m.heap.flatten.length<=1000):cM prog 212 [.pt (hn 5 N.k) 0 0 0,rI a] e (rI (MV.bc m.heap a).length) e:=
 hR.lz rfl rfl (Tp m.heap a hl hf)
def ML(hR:bI p C m N e)(a i n:Int)(hl:m.heap.length<=1000)(hf:m.heap.flatten.length<=1000)(hi:¬(i<0\/((MV.bc m.heap a).length:Int)<=i)):lf prog 214 [.pt (hn 5 N.k) 0 0 0,rI a,rI i,rI n] e X (rI 0) (To p C { m with heap:=m.heap.set (a-1).toNat ((nth m.heap (a-1).toNat).set i.toNat n) } N):=
 hR.tP rfl rfl (Uq m.heap a i n hl hf hi)
def LA(hR:bI p C m N e)(a i n:Int)(hl:m.heap.length<=1000)(hf:m.heap.flatten.length<=1000)(hi:i<0\/((MV.bc m.heap a).length:Int)<=i):cM prog 214 [.pt (hn 5 N.k) 0 0 0,rI a,rI i,rI n] e (rI 2) e:=
 hR.lz rfl rfl (PN m.heap a i n hl hf hi)
def Un(hR:bI p C m N e)(n:Int)(h0:0<=n/\n<=16)(hc:gz m.heap+n+1<=40)(YC:gz m.heap=m.heap.length+m.heap.flatten.length):lf prog 216 [.pt (hn 5 N.k) 0 0 0,rI n] e X (.aY [rI (m.heap.length+1:Nat),rI 0]) (To p C { m with heap:=m.heap++[List.replicate n.toNat 0] } N):=by obtain⟨k,rfl⟩:∃k:Nat,n=k:=⟨n.toNat,jB⟩;rw[Int.toNat_natCast];exact hR.tP rfl rfl (OH m.heap k jB jB)
def S4(hR:bI p C m N e)(n:Int)(h0:n<0\/16<n)(hl:m.heap.length<=40)(hf:m.heap.flatten.length<=40):cM prog 216 [.pt (hn 5 N.k) 0 0 0,rI n] e (.aY [rI 0,rI 7]) e:=
 hR.lz rfl rfl (OY m.heap n h0 hl hf)
def Lu(hR:bI p C m N e)(n:Int)(h0:0<=n/\n<=16)(hc:40<(m.heap.length:Int)+m.heap.flatten.length+n+1)(hl:m.heap.length<=40)(hf:m.heap.flatten.length<=40):cM prog 216 [.pt (hn 5 N.k) 0 0 0,rI n] e (.aY [rI 0,rI 4]) e:=
 hR.lz rfl rfl (Lp m.heap n h0 hc hl hf)
def TN(hR:bI p C m N e)(h1:1<=m.calls.length):(List.map (fun j=>[AV.pt (hn 0 j) 0 0 0]) (List.map NC.c N.cs)++List.map (fun j=>[AV.pt (hn 0 j) 0 0 0]) N.cj).getD (N.cs.length-1) []=[cP N]:=by have hl:=hR.len;rw[<-List.map_append];rw[List.getD_eq_getElem?_getD,List.getElem?_map,List.getElem?_append_left (by rw[List.length_map];omega),List.getElem?_map,List.getElem?_eq_getElem jB];unfold cP NM.ai;rw[ee jB];rfl
def uV(hR:bI p C m N e)(h1:1<=m.calls.length):cM prog 163 [mP N] e (cP N) e:=by
 have P':=hR.ok.low;have hl:=hR.len;have hb:=hR.bd;have hg:=TN hR h1;refine⟨?_,hR.ok,hR.ok,fun _ h=>h,by simp only[aR,AV.all,fV hR.root,Bool.and_self]⟩;refine aK (L:=ids e) func163 ntmps163 ?_ (hL:=rfl);generalize hB:ids e=B;refine eK ?_
 (have W:=jA P' (jA hR.root (jA hR.row (hg)));repeat' (first|refine au fun K hK=>?_|refine aq ?_|(with_reducible refine gR 1 ?_);refine dE 1 (bf 0 13) mixed ?_|(refine hK _ _ ?_;clear hK K)|(refine ar ?_ ?_<;>intro hc<;>try exact jz)|refine av ?_|exact jI|(clear hK K)))
 exact eu hB hR.ok hR.ok (tl:=[]) (fun _=>rfl) dL [.tmp 2]
def Ip{N:NM}{n:NC}(h:1<=N.cs.length):(N.aX n).ai=n:=by show nth (N.cs.set _ n) ((N.cs.set _ n).length-1)=n;rw[List.length_set,Go.Gd.dD _ _ _ _ jB,if_pos rfl]
def wY(hR:bI p C m N e)(h1:1<=m.calls.length)(s t:Int):lf prog 215 [mP N,rI s,rI t] e X (.aY []) (To p C (m.stops s t) N):=by
 have ht:=uV hR h1;have hT:=hR.ai h1;have P':=hR.ok.low;have hl:=hR.len;have YL:bI p C { m with status:=s,bs:=t } N (aZ e (hn 3 N.k) (.var 205 (mE p C { m with status:=s,bs:=t } N))):=hR.mJ rfl rfl rfl;have V0:=zL e X 2 0;have hnX:=Al e X 2 0;generalize ri (ids e++X)+0=k at V0 hnX;have XH:az (aZ e (hn 3 N.k) (.var 205 (mE p C { m with status:=s,bs:=t } N))) (hn 2 k)=none:=by rw[bO,if_neg (dc jB jB jB)];exact V0
 have i1:=fV hT.eN;have V8:bI p C (m.stops s t) (N.aX ⟨N.ai.c,k,[]⟩) (aZ (aZ (aZ e (hn 3 N.k) (.var 205 (mE p C { m with status:=s,bs:=t } N))) (hn 2 k) (.aD 54 3 [])) (hn 0 N.ai.c) (.var 217 (MV.cE m.ai.back ⟨N.ai.c,k,[]⟩))):=by
  refine YL.aX (c':=m.ai.back) (n':=⟨N.ai.c,k,[]⟩) h1 rfl ?_ ⟨?_,?_,?_,by show 0+0<=2000;omega⟩ (.inr XH) fun j hj n0 n1 n2=>?_
  ·refine(YL.ok.put (.inr (iJ _ _)) rfl).put (.inr (iJ _ _)) ?_;have j1:=fV (YL.ai h1).eN;have q1:=(pc (aZ e (hn 3 N.k) (.var 205 (mE p C { m with status:=s,bs:=t } N))) (hn 2 k) (hn 2 k) (.aD 54 3 [])).2 (.inl rfl);have q2:=(pc (aZ e (hn 3 N.k) (.var 205 (mE p C { m with status:=s,bs:=t } N))) (hn 2 k) (hn 1 N.ai.c) (.aD 54 3 [])).2 (.inr (List.contains_iff_mem.1 j1));rw[<-List.contains_iff_mem]at q1 q2;simp only[Row.cells,MV.cE,aR,AV.all,q1,q2,Bool.or_true,Bool.and_self]
  ·rw[bO,if_pos rfl]
  ·rw[bO,if_neg (dc jB jB jB),bO,if_pos rfl];rfl
  ·rw[bO,if_neg (dc jB jB jB),bO,if_neg (dc jB jB jB)];exact(YL.ai h1).eN
  ·rw[bO,if_neg n0,bO,if_neg (fun e'=>by subst e';exact hj XH)]
 have hU:Up X e (aZ (aZ (aZ e (hn 3 N.k) (.var 205 (mE p C { m with status:=s,bs:=t } N))) (hn 2 k) (.aD 54 3 [])) (hn 0 N.ai.c) (.var 217 (MV.cE m.ai.back ⟨N.ai.c,k,[]⟩))):=by
  refine((Up.put _ (.inl ?_)).trans (Up.put _ (.inr hnX))).trans (Up.put _ (.inl ?_))
  ·rw[hR.root];simp
  ·rw[bO,if_neg (dc jB jB jB),bO,if_neg (dc jB jB jB),hT.var];simp
 refine⟨_,_,⟨V8,rfl,by rw[Ip jB]⟩,hU,⟨?_,hR.ok,V8.ok,hU.aU,by simp only[aR,AV.all,fV hR.root,Bool.and_self]⟩⟩;have k2:=V8.ok;clear V8 hU;generalize hE:aZ (aZ (aZ e (hn 3 N.k) (.var 205 (mE p C { m with status:=s,bs:=t } N))) (hn 2 k) (.aD 54 3 [])) (hn 0 N.ai.c) (.var 217 (MV.cE m.ai.back ⟨N.ai.c,k,[]⟩))=E at k2 ⊢;refine aK (L:=ids e) func215 ntmps215 ?_ (hL:=rfl);generalize hB:ids e=B;refine eK ?_
 (have W:=jA P' (jA hR.root (hT.var));repeat' (first|refine au fun K hK=>?_|refine aq ?_|(refine hK _ _ ?_;clear hK K)|(refine ar ?_ ?_<;>intro hc<;>try exact jz)|refine cT ht ?_|refine av ?_|exact jI|(clear hK K)))
 refine F9 hB hR.ok k2 (iN.fz (t:=217) (cs:=[.raw (.slice none 0 0),rI m.ai.fn,rI m.ai.mark,rI m.ai.mark,.rs (hn 1 N.ai.c) m.ai.slots.length 3 m.ai.slots.length]) (hn 2 k) (hn 0 N.ai.c) 0 54 3 ?_ jC ?_ rfl) (tl:=[]) (fun i=>?_) dL []
 ·show az (tie _ []) _=_;simp(disch:=first|omega|assumption|fail) only[go_sem,↓reduceIte,V0]
 ·show az (tie _ []) _=_;simp(disch:=first|omega|assumption|fail) only[go_sem,↓reduceIte,hT.var]
 ·subst hE;simp only[Hp.put,kg,bO,az,Option.or_none];by_cases a:i=hn 0 N.ai.c
  ·rw[if_pos a,if_pos a];rfl
  ·simp only[if_neg a];by_cases b:i=hn 2 k
   ·simp only[if_pos b]
   ·simp only[if_neg b];by_cases c:i=hn 3 N.k
    ·simp only[if_pos c];rfl
    ·simp only[if_neg c]
def xX(hR:bI p C m N e)(h1:1<=m.calls.length)(r:aj×Int)(hb:m.ai.stack.length<=1000):lf prog 209 [mP N,rV r.1,rI r.2] e X (.aY []) (To p C (m.eR r) N):=by
 have ht:=uV hR h1;have P':=hR.ok.low;have ha:∀v t:AV,v.all eo=true->t.all eo=true->aR (fun i=>(ids e).contains i) [mP N,v,t]=true:=fun v t h h'=>by simp only[aR,AV.all,fV hR.root,Bool.true_and,Bool.and_true];exact Bool.and_eq_true _ _ ▸ ⟨rA (fun _ h=>by cases h) _ h,rA (fun _ h=>by cases h) _ h'⟩
 unfold MV.eR;by_cases h0:r.2≠0
 ·rw[if_pos h0];obtain⟨N',l,hT,hU,hp⟩:=wY X hR h1 3 r.2;refine⟨N',l,hT,hU,⟨?_,hR.ok,hp.e2,hU.aU,ha _ _ rfl rfl⟩⟩;refine aK (L:=ids e) func209 ntmps209 ?_ (hL:=rfl);generalize hB:ids e=B;refine eK ?_
  (have W:=P';repeat' (first|refine au fun K hK=>?_|refine aq ?_|(refine hK _ _ ?_;clear hK K)|(refine ar ?_ ?_<;>intro hc<;>try exact jz)|refine cL 9 ?_|refine cT hp ?_|refine av ?_|exact jI|(clear hK K)))
  exact eu hB hR.ok hp.e2 (fun _=>rfl) (du jC dL) []
 ·rw[if_neg h0];have h0:r.2=0:=jB;obtain⟨N',l,hT,hU,hp⟩:=tu X hR h1 r.1 hb;refine⟨N',l,hT,hU,⟨?_,hR.ok,hp.e2,hU.aU,ha _ _ rfl rfl⟩⟩;refine aK (L:=ids e) func209 ntmps209 ?_ (hL:=rfl);generalize hB:ids e=B;refine eK ?_
  (have W:=jA P' h0;repeat' (first|refine au fun K hK=>?_|refine aq ?_|(with_reducible refine gR 3 ?_);refine dC 3 ([],[12],[]) [] (bf 0 6) mixed ?_|(refine hK _ _ ?_;clear hK K)|(refine ar ?_ ?_<;>intro hc<;>try exact jz)|refine cL 9 ?_|refine nr ht ?_|refine cT hp ?_|refine av ?_|exact jI|(clear hK K)))
  exact eu hB hR.ok hp.e2 (fun _=>rfl) (du jC dL) []
end
section
variable {p:ah}{C:aE}{m:MV}{N:NM}{e:UR}(X:UW)
def qw(hR:bI p C m N e){l:US}(h:aR eo l=true):aR (fun i=>(ids e).contains i) (mP N::l)=true:=by simp only[aR,AV.all,fV hR.root,Bool.true_and];exact fR (fun _ h=>by cases h) _ h
def I0(hR:bI p C m N e)(h1:1<=m.calls.length)(v:aj)(hb:∀k,k<m.calls.length->(nth m.calls k).stack.length<=1000):lf prog 218 [mP N,rV v] e X (.aY []) (fun N' l=>bI p C (m.ends v) N' l/\N'.k=N.k):=by
 have P':=hR.ok.low;have hl:=hR.len;have Zj:=hR.bd;unfold MV.ends;by_cases h2:m.calls.length<=1
 ·rw[if_pos h2];have V8:bI p C { m.pop with status:=2 } N.pop (aZ e (hn 3 N.k) (.var 205 (mE p C { m.pop with status:=2 } N.pop))):=hR.xZ h1 rfl rfl rfl;have hU:Up X e (aZ e (hn 3 N.k) (.var 205 (mE p C { m.pop with status:=2 } N.pop))):=Up.put _ (.inl (by rw[hR.root];simp));refine⟨_,_,⟨V8,rfl⟩,hU,⟨?_,hR.ok,V8.ok,hU.aU,qw hR rfl⟩⟩;have k2:=V8.ok;clear V8 hU;generalize hE:aZ e (hn 3 N.k) (.var 205 (mE p C { m.pop with status:=2 } N.pop))=E at k2 ⊢;refine aK (L:=ids e) func218 ntmps218 ?_ (hL:=rfl);generalize hB:ids e=B;refine eK ?_
  (have W:=jA P' (hR.root);repeat' (first|refine au fun K hK=>?_|refine aq ?_|(with_reducible refine gR 1 ?_);refine dE 1 (bf 0 15) mixed ?_|(refine hK _ _ ?_;clear hK K)|(refine ar ?_ ?_<;>intro hc<;>try exact jz)|refine cL 9 ?_|refine av ?_|exact jI|(clear hK K)))
  refine eu (tl:=[(9,.var 54 (bW v))]) hB hR.ok k2 (fun i=>?_) (du jC dL) [];subst hE;have e1:N.cs.length=1:=jB;simp only[kg,bO];by_cases a:i=hn 3 N.k
  ·simp only[if_pos a,Option.some_or];unfold mE NM.pop;simp[MV.pop,kD,e1,Nat.add_comm]
  ·simp only[if_neg a]
 ·rw[if_neg h2];have V8:bI p C m.pop N.pop (aZ e (hn 3 N.k) (.var 205 (mE p C m.pop N.pop))):=hR.xZ h1 rfl rfl rfl;have eE:aZ e (hn 3 N.k) (.var 205 (mE p C m.pop N.pop))=aZ e (hn 3 N.k) (.var 205 (kD p++[aO df 4 C.ins,aO eI 1 C.entry,.rs (hn 4 N.k) (N.cs.length+N.cj.length) 1 (N.cs.length-1),.pt (hn 5 N.k) 0 0 0,.rs (hn 8 N.k) m.aS.length 1 m.aS.length,.raw (.int .i64 m.in_),.raw (.int .i64 m.status),.raw (.int .i64 m.bs),.raw (.int .i64 m.time)])):=by
   unfold mE NM.pop;have:N.cs.length-1+(N.cj.length+1)=N.cs.length+N.cj.length:=jB;simp[MV.pop,this]
  rw[eE]at V8;have hU:Up X e (aZ e (hn 3 N.k) (.var 205 (kD p++[aO df 4 C.ins,aO eI 1 C.entry,.rs (hn 4 N.k) (N.cs.length+N.cj.length) 1 (N.cs.length-1),.pt (hn 5 N.k) 0 0 0,.rs (hn 8 N.k) m.aS.length 1 m.aS.length,.raw (.int .i64 m.in_),.raw (.int .i64 m.status),.raw (.int .i64 m.bs),.raw (.int .i64 m.time)]))):=Up.put _ (.inl (by rw[hR.root];simp));have p1:1<=m.pop.calls.length:=by show 1<=(m.calls.take _).length;rw[List.length_take];omega
  have ht:=uV V8 p1;have Zt:m.pop.ai.stack.length<=1000:=by have:m.pop.ai=nth m.calls (m.calls.length-1-1):=MV.ra jB;rw[this];exact hb _ jB
  obtain⟨N',l,hT,V2,hp⟩:=tu X V8 p1 v Zt;refine⟨N',l,⟨hT.1,hT.2.1⟩,hU.trans V2,⟨?_,hR.ok,hp.e2,(hU.trans V2).aU,qw hR rfl⟩⟩;clear hU V2 eE;refine aK (L:=ids e) func218 ntmps218 ?_ (hL:=rfl);generalize hB:ids e=B;refine eK ?_
  (have W:=jA P' (hR.root);repeat' (first|refine au fun K hK=>?_|refine aq ?_|(with_reducible refine gR 1 ?_);refine dE 1 (bf 0 15) mixed ?_|(with_reducible refine gR 4 ?_);refine dC 4 ([],[28],[]) [] (bf 0 6) mixed ?_|(refine hK _ _ ?_;clear hK K)|(refine ar ?_ ?_<;>intro hc<;>try exact jz)|refine cL 9 ?_|refine nr ht ?_|refine cT hp ?_|refine av ?_|exact jI|(clear hK K)))
  exact eu hB hR.ok hp.e2 (fun _=>rfl) (du jC dL) []
structure qg(p:ah)(C:aE)(m:MV)(fn:Int)(args:List aj):Prop where
 f0:0<=fn
 f1:fn<C.entry.length
 f2:fn<p.size.length
 s0:0<=nth p.size fn.toNat
 s1:nth p.size fn.toNat<=24
 s2:(args.length:Int)<=nth p.size fn.toNat
 pL:C.entry.length<=1000/\p.size.length<=1000
 calls:m.calls.length<=8
def Hz(hR:bI p C m N e)(fn:Int)(args:List aj)(hk:qg p C m fn args):lf prog 112 [mP N,rI fn,aO bW 3 args] e X (.aY []) (fun N' l=>bI p C (m.cB p C fn args) N' l/\N'.k=N.k):=by
 have P':=hR.ok.low;have hl:=hR.len;have Zj:=hR.bd;obtain⟨f0,f1,f2,s0,s1,s2,⟨b1,b2⟩,h8⟩:=hk;have n0:=zL e X 0 0;have n1:=zL e X 1 0;have n2:=zL e X 2 0;have x0:=Al e X 0 0;have x1:=Al e X 1 0;have x2:=Al e X 2 0;generalize ri (ids e++X)+0=k at n0 n1 n2 x0 x1 x2;have V8:=hR.Dc (m':=m.cB p C fn args) (c':=jO p C fn args) (j:=k) jB rfl rfl rfl n0 n1 n2 (by show 0<=2000;omega);have hU:Up X e (oe p C (m.cB p C fn args) N (jO p C fn args) k e):=by
  unfold oe;refine((((Up.put _ (.inr x1)).trans (Up.put _ (.inr x2))).trans (Up.put _ (.inr x0))).trans (Up.put _ (.inl ?_))).trans (Up.put _ (.inl ?_))
  ·rw[bO,if_neg (dc jB jB jB),bO,if_neg (dc jB jB jB),bO,if_neg (dc jB jB jB),hR.row];simp
  ·rw[bO,if_neg (dc jB jB jB),bO,if_neg (dc jB jB jB),bO,if_neg (dc jB jB jB),bO,if_neg (dc jB jB jB),hR.root];simp
 obtain⟨n,Xz⟩:∃n:Nat,nth p.size fn.toNat=(n:Int):=⟨(nth p.size fn.toNat).toNat,jB⟩;refine⟨_,_,⟨V8,rfl⟩,hU,⟨?_,hR.ok,V8.ok,hU.aU,qw hR rfl⟩⟩;have k2:=V8.ok;clear V8 hU;generalize hE:oe p C (m.cB p C fn args) N (jO p C fn args) k e=E at k2 ⊢;have han:args.length<=n:=jB;refine aK (L:=ids e) func112 ntmps112 ?_ (hL:=rfl);generalize hB:ids e=B;refine eK ?_
 (have W:=jA P' (jA hR.root (jA hR.row (jA Xz (jA n0 (n1)))));repeat' (first|refine au fun K hK=>?_|refine aq ?_|(with_reducible refine gR 0 ?_);refine dC 0 ([],[],[32]) [] (bf 0 29) mixed ?_|(refine hK _ _ ?_;clear hK K)|(refine ar ?_ ?_<;>intro hc<;>try exact jz)|refine cL (hn 0 k) ?_|refine NK (n:=n) (hn 1 k) ?_|refine Nl ?_ (hd:=by(show az (tie _ _) _=_;rw[kg,n1,Option.none_or];exact if_pos rfl))|refine vH 10 ?_|refine sj (enc:=fun j=>[.pt (hn 0 j) 0 0 0]) (N.cs.map NC.c) N.cj [k] ?_ (hm:=by rw[List.length_map]) (hn:=by rw[List.length_map])|refine av ?_|exact jI|(clear hK K)))
 refine F9 (tl:=[(10,.aD 213 1 [[.pt (hn 0 k) 0 0 0]])]) hB hR.ok k2 (iN.fz (t:=217) (cs:=[.raw (.slice none 0 0),rI fn,rI (nth C.entry fn.toNat),rI (nth C.entry fn.toNat),.rs (hn 1 k) n 3 n]) (hn 2 k) (hn 0 k) 0 54 3 ?_ jC ?_ rfl) (fun i=>?_) (du jC dL) []
 ·show az (tie _ _) _=_;simp(disch:=first|omega|assumption|fail) only[go_sem,↓reduceIte,n2]
 ·show az (tie _ _) _=_;simp(disch:=first|omega|assumption|fail) only[go_sem,↓reduceIte,n0]
 ·subst hE;have en:((nth p.size fn.toNat)-(args.length:Int)).toNat=n-args.length:=jB;have es:(jO p C fn args).slots.map bW=fl (List.replicate n (bW v0)) 0 (args.map bW):=by
   show(args++List.replicate _ v0).map bW=_;unfold fl;rw[en,List.map_append,List.map_replicate];simp
  have el:(jO p C fn args).slots.length=n:=by show(args++List.replicate _ v0).length=n;rw[en,List.length_append,List.length_replicate];omega
  have q4:hn 4 N.k≠hn 3 N.k:=dc jB jB jB;simp only[oe,Hp.put,kg,bO,es];by_cases a:i=hn 3 N.k
  ·subst a;simp(disch:=first|omega|assumption|fail) only[go_sem,↓reduceIte,NM.oc,List.length_append,List.length_drop,List.length_singleton,MV.cB]
  simp only[if_neg a];by_cases b:i=hn 4 N.k
  ·subst b;simp(disch:=first|omega|assumption|fail) only[go_sem,↓reduceIte,NM.oc,List.map_append,List.append_assoc]
  simp only[if_neg b];by_cases c:i=hn 0 k
  ·subst c;simp(disch:=first|omega|assumption|fail) only[go_sem,↓reduceIte,el];rfl
  simp only[if_neg c];by_cases d:i=hn 2 k
  ·subst d;simp(disch:=first|omega|assumption|fail) only[go_sem,↓reduceIte];rfl
  simp only[if_neg d];by_cases f:i=hn 1 k
  ·subst f;simp(disch:=first|omega|assumption|fail) only[go_sem,↓reduceIte,n1];rfl
  simp only[if_neg f,az,if_neg c]
end
end Go.Proofs.YtjpcgmjaipfgdaaGreatDoor