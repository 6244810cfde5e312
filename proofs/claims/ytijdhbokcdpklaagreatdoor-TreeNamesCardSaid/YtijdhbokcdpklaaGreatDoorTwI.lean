/- Lemmas. No conditions. -/
import Derived.Test.YtijdhbokcdpklaaGreatDoorTwE
set_option linter.all false
set_option maxHeartbeats 4000000
set_option maxRecDepth 10000
namespace Go.Gd
open Go
theorem D2{x:az}{t:Int}(h:x.at_<=t):∀{l:List az},ji l->cv (gX x l) t=gX x (cv l t)
 |[],_=>by show cv [x] t=[x];unfold cv;rw[List.filter_cons_of_pos (by simpa using h)];rfl
 |y::l,hs=>by
  unfold gX;by_cases c:x.at_<y.at_
  ·rw[if_pos c];by_cases d:y.at_<=t
   ·unfold cv;rw[List.filter_cons_of_pos (by simpa using h),List.filter_cons_of_pos (by simpa using d)];simp only;rw[if_pos c]
   ·have:=(DH (t:=t) l y hs jB).1;unfold cv at this ⊢;rw[List.filter_cons_of_pos (by simpa using h),List.filter_cons_of_neg (by simpa using d),this]
  ·rw[if_neg c];have:=D2 h (l:=l) hs.2;unfold cv at this ⊢;rw[List.filter_cons_of_pos jF,List.filter_cons_of_pos jF,this];simp only;rw[if_neg c]
theorem CW{t:Int}:∀{b a:List az},ji a->cv (ie a b) t=ie (cv a t) (cv b t)
 |[],a,_=>by show cv (ie a []) t=ie (cv a t) [];unfold ie;rfl
 |x::b,a,h=>by
  have ih:=CW (t:=t) (b:=b) (yb x h);have e1:ie a (x::b)=ie (gX x a) b:=by rw[ie]
  rw[e1,ih];by_cases c:x.at_<=t
  ·have e2:cv (x::b) t=x::cv b t:=by unfold cv;rw[List.filter_cons_of_pos (by simpa using c)]
   rw[e2,D2 c h];conv=>rhs;rw[ie]
  ·have e2:cv (x::b) t=cv b t:=by unfold cv;rw[List.filter_cons_of_neg (by simpa using c)]
   rw[e2,Ad jB]
variable{l:List ar}
def Aq{b:ar}{k:Nat}(hk:k<l.length+1):nth (l++[b]) k=if k<l.length then nth l k else b:=by
 unfold nth;rw[List.getD_eq_getElem?_getD,List.getD_eq_getElem?_getD];by_cases c:k<l.length
 ·rw[if_pos c,List.getElem?_append_left c]
 ·rw[if_neg c,List.getElem?_append_right jB,show k-l.length=0 from jB];rfl
def A6{x:az}(h:jS x=true):0<=x.at_/\x.at_<=200:=by unfold jS at h;simp only[Bool.and_eq_true,decide_eq_true_eq]at h;exact⟨jB,jB⟩
def Qh{b:ar}{x:az}:x∈dr b<->x∈b.base\/x∈b.own:=Ah
structure mF where
 kind:Int
 n:Int
 name:ByteArray
 more:ByteArray
 v:aj
 deriving Inhabited,DecidableEq
def gV(x:mF):UM:=[.raw (.int .u8 x.kind),.raw (.int .i64 x.n),.raw (.string x.name),.raw (.string x.more),.raw (.int .i64 x.v.ty),.raw (.int .i64 x.v.n),.raw (.string x.v.s)]
section
variable (x y:mF)
@[go_sem] def j55:((gV x).length=7)/\((gV x).all AV.one=true):=by and_intros<;>(intros;rfl)
@[go_sem] def Qv(q:UX):aZ q (gV x)=true:=by simp[gV,aZ,AV.all]
instance:bK gV 7:=⟨fun _=>rfl,fun _=>rfl,fun x=>Qv x _⟩
@[go_sem] def j3I:((gV x).take 7=gV x)/\((gV x).getD 0 .any=.raw (.int .u8 x.kind))/\((gV x).getD 1 .any=.raw (.int .i64 x.n))/\((gV x).getD 2 .any=.raw (.string x.name))/\(∀(v:UR),List.take 2 (gV x)++[.raw (.string v)]++List.drop 3 (gV x)=gV { x with name:=v })/\((gV x).getD 3 .any=.raw (.string x.more))/\(∀(v:UR),List.take 3 (gV x)++[.raw (.string v)]++List.drop 4 (gV x)=gV { x with more:=v })/\((gV x).getD 6 .any=.raw (.string x.v.s))/\(∀(v:UR),List.take 6 (gV x)++[.raw (.string v)]++List.drop 7 (gV x)=gV { x with v.s:=v })/\(((gV x).drop 4).take 3=bW x.v):=by and_intros<;>(intros;rfl)
end
def AL(x:UR×Int):UM:=[.raw (.string x.1),.raw (.int .u8 x.2)]
def oP(o:mF):mF:=⟨o.kind,o.n,Gx o.name,Gx o.more,{ o.v with s:=if 60<o.v.s.size then o.v.s.extract 0 60 else o.v.s }⟩
variable{nm:UR}
def xY(h:¬dp nm l 0<0):∃n:Nat,n<l.length/\dp nm l 0=n/\(nth l n).name=nm:=by
 rcases rh nm l 0 with⟨e,_⟩|⟨j,h1,h2,h3,_⟩
 ·omega
 ·exact⟨j,h1,jB,h3⟩
def BO(h:dp nm l 0<0):∀j,j<l.length->(nth l j).name≠nm:=by
 rcases rh nm l 0 with⟨_,h⟩|⟨j,h1,h2,h3,_⟩
 ·exact h
 ·omega
end Go.Gd
namespace Go.Proofs.YtijdhbokcdpklaaGreatDoor
open Go Go.Gd Tryz Go.Gd.MV
section
variable {p:af}(hs:gi p){F:UP->MV->MV}(hF:bH p (bA p) F){inp:UP}(hi:∀x∈inp,bE x){E:List az}(hE:∀x∈E,bE x.v.n)
include hF hi hE
theorem D9{T T':Int}(hT:T<=200)(hT':T'<=T):∀(n n':Nat) (s:MV) (k:Nat) (b:Bool),IM p inp s->s.time<=T'->T-s.time<n->T'-s.time<n'->T'<=(da MV.time (F inp) (dw p (bA p)) E T n s k b).1.time->(da MV.time (F inp) (dw p (bA p)) E T' n' s k b).1.time=T'
 |0,_,s,k,b,_,_,h,_,_=>by omega
 |_,0,s,k,b,_,_,_,h,_=>jB
 |n+1,n'+1,s,k,b,h,ht,h1,h2,h3=>by
  have Xw:=mH hE;obtain⟨a1,a2,_⟩:=nw (mS hF hi Xw) (E.length+1) s k b h;unfold da at h3 ⊢;generalize cz MV.time (dw p (bA p)) E (E.length+1) s k b=Q at*;obtain⟨c1,c2⟩:=pq hF hi a1;by_cases c:Q.1.time=T'
  ·rw[if_pos c];exact c
  have c':¬Q.1.time=T:=jB;rw[if_neg c']at h3;rw[if_neg c];by_cases d:(F inp Q.1).time=Q.1.time
  ·rw[if_pos d]at h3;have h3:T'<=(F inp Q.1).time:=h3;omega
  ·rw[if_neg d]at h3;rw[if_neg d];have h4:(F inp Q.1).time=Q.1.time+1:=c2.elim (fun e=>(d e).elim) fun e=>e.1
   exact D9 hT hT' n n' _ Q.2.1 Q.2.2 c1 jB jB jB h3
theorem Jz{T':Int}(hT:T'+1<=200):∀(n n':Nat) (s:MV) (k:Nat) (b:Bool),IM p inp s->s.time<=T'->T'+1-s.time<n->T'-s.time<n'->((da MV.time (F inp) (dw p (bA p)) E (T'+1) n s k b).1.time=T'+1<->(da MV.time (F inp) (dw p (bA p)) E T' n' s k b).1.time=T'/\(F inp (da MV.time (F inp) (dw p (bA p)) E T' n' s k b).1).time=T'+1)
 |0,_,s,k,b,_,_,h,_=>by omega
 |_,0,s,k,b,_,_,_,h=>jB
 |n+1,n'+1,s,k,b,h,ht,h1,h2=>by
  have Xw:=mH hE;obtain⟨a1,a2,_⟩:=nw (mS hF hi Xw) (E.length+1) s k b h;unfold da;generalize cz MV.time (dw p (bA p)) E (E.length+1) s k b=Q at*;obtain⟨c1,c2⟩:=pq hF hi a1;have c':¬Q.1.time=T'+1:=jB;rw[if_neg c'];by_cases c:Q.1.time=T'
  ·rw[if_pos c];by_cases d:(F inp Q.1).time=Q.1.time
   ·rw[if_pos d];show(F inp Q.1).time=T'+1<->_;exact⟨fun e=>jB,fun e=>jB⟩
   ·rw[if_neg d];have h4:(F inp Q.1).time=Q.1.time+1:=c2.elim (fun e=>(d e).elim) fun e=>e.1
    refine⟨fun _=>⟨c,jB⟩,fun _=>?_⟩;obtain⟨n2,rfl⟩:∃n2,n=n2+1:=⟨n-1,jB⟩;obtain⟨b1,b2,_⟩:=nw (mS hF hi Xw) (E.length+1) (F inp Q.1) Q.2.1 Q.2.2 c1;unfold da;rw[jP];omega
  ·rw[if_neg c];by_cases d:(F inp Q.1).time=Q.1.time
   ·rw[if_pos d,if_pos d];show(F inp Q.1).time=T'+1<->(F inp Q.1).time=T'/\_;exact⟨fun e=>jB,fun e=>by have:=e.1;omega⟩
   ·rw[if_neg d,if_neg d];have h4:(F inp Q.1).time=Q.1.time+1:=c2.elim (fun e=>(d e).elim) fun e=>e.1
    exact Jz hT n n' _ Q.2.1 Q.2.2 c1 jB jB jB
theorem I5{T:Int}(hT:T<=200):∀(n:Nat) (s:MV) (k:Nat) (b:Bool),IM p inp s->s.time<=T->(nth E k).at_<s.time->(da MV.time (F inp) (dw p (bA p)) E T n s k b).2.1=k
 |0,s,k,b,_,_,_=>rfl
 |n+1,s,k,b,h,ht,h1=>by
  have U2:cz MV.time (dw p (bA p)) E (E.length+1) s k b=(s,k,b):=by unfold cz;rw[if_neg (fun e=>by have:=e.2.2;omega)]
  unfold da;rw[U2];obtain⟨c1,c2⟩:=pq hF hi h;show(if s.time=T then(s,k,b)else if(F inp s).time=s.time then(F inp s,k,b)else da MV.time (F inp) (dw p (bA p)) E T n (F inp s) k b).2.1=k;split
  ·rfl
  split
  ·rfl
  ·exact I5 hT n _ k b c1 jB jB
theorem HU{T T':Int}(hT:T<=200)(hT':T'<=T):∀(n n':Nat) (s:MV) (k:Nat) (b:Bool),IM p inp s->s.time<=T'->T-s.time<n->T'-s.time<n'->(da MV.time (F inp) (dw p (bA p)) E T n s k b).2.1=E.length->(da MV.time (F inp) (dw p (bA p)) E T' n' s k b).1.time=T'->(da MV.time (F inp) (dw p (bA p)) E T' n' s k b).2.1<E.length->T'<(nth E (da MV.time (F inp) (dw p (bA p)) E T' n' s k b).2.1).at_
 |0,_,s,k,b,_,_,h,_,_,_,_=>by omega
 |_,0,s,k,b,_,_,_,h,_,_,_=>jB
 |n+1,n'+1,s,k,b,h,ht,h1,h2,h3,h4,h5=>by
  have Xw:=mH hE;obtain⟨a1,a2,_⟩:=nw (mS hF hi Xw) (E.length+1) s k b h;unfold da at h3 h4 h5 ⊢;generalize cz MV.time (dw p (bA p)) E (E.length+1) s k b=Q at*;obtain⟨c1,c2⟩:=pq hF hi a1;by_cases c:Q.1.time=T'
  ·rw[if_pos c]at h4 h5 ⊢;refine Int.not_le.1 fun U6=>?_
   by_cases c':Q.1.time=T
   ·rw[if_pos c']at h3;omega
   rw[if_neg c']at h3;by_cases d:(F inp Q.1).time=Q.1.time
   ·rw[if_pos d]at h3;have h3:Q.2.1=E.length:=h3;omega
   ·rw[if_neg d]at h3;have h6:(F inp Q.1).time=Q.1.time+1:=c2.elim (fun e=>(d e).elim) fun e=>e.1
    rw[I5 hF hi hE hT n _ Q.2.1 Q.2.2 c1 jB jB]at h3;omega
  ·have c':¬Q.1.time=T:=jB;rw[if_neg c']at h3;rw[if_neg c]at h4 h5 ⊢;by_cases d:(F inp Q.1).time=Q.1.time
   ·rw[if_pos d]at h4;have h4:(F inp Q.1).time=T':=h4;omega
   ·rw[if_neg d]at h3 h4 h5 ⊢;have h6:(F inp Q.1).time=Q.1.time+1:=c2.elim (fun e=>(d e).elim) fun e=>e.1
    exact HU hT hT' n n' _ Q.2.1 Q.2.2 c1 jB jB jB h3 h4 h5
theorem IC{T T':Int}(hT':T'<=T):∀(n n':Nat) (s:MV) (k:Nat) (b:Bool),IM p inp s->s.time<=T'->T-s.time<n->(da MV.time (F inp) (dw p (bA p)) E T' n' s k b).2.1<=(da MV.time (F inp) (dw p (bA p)) E T n s k b).2.1
 |0,_,s,k,b,_,_,h=>by omega
 |n,0,s,k,b,_,_,h=>yh _ _ _ _ _
 |n+1,n'+1,s,k,b,h,ht,h1=>by
  have Xw:=mH hE;obtain⟨a1,a2,_⟩:=nw (mS hF hi Xw) (E.length+1) s k b h;unfold da;generalize cz MV.time (dw p (bA p)) E (E.length+1) s k b=Q at*;obtain⟨c1,c2⟩:=pq hF hi a1;by_cases c:Q.1.time=T'
  ·rw[if_pos c];split
   ·exact Nat.le_refl _
   split
   ·exact Nat.le_refl _
   ·exact yh _ _ _ _ _
  ·have c':¬Q.1.time=T:=jB;rw[if_neg c,if_neg c'];by_cases d:(F inp Q.1).time=Q.1.time
   ·rw[if_pos d,if_pos d];exact Nat.le_refl _
   ·rw[if_neg d,if_neg d];have h6:(F inp Q.1).time=Q.1.time+1:=c2.elim (fun e=>(d e).elim) fun e=>e.1
    exact IC hT' n n' _ Q.2.1 Q.2.2 c1 jB jB
theorem FC{T:Int}(h1:T<=200){y:Int}(hy:bE y):∀(n:Nat) (s:MV) (k:Nat) (b:Bool),IM p inp s->s.time<=T->(da MV.time (F inp) (dw p (bA p)) E T n s k b).2.1<=(da MV.time (F (inp++[y])) (dw p (bA p)) E T n s k b).2.1
 |0,s,k,b,_,_=>Nat.le_refl _
 |n+1,s,k,b,h,ht=>by
  have VE:∀x∈inp++[y],bE x:=fun x hx=>(List.mem_append.1 hx).elim (hi x) (fun hx=>by rw[List.mem_singleton.1 hx];exact hy)
  have Xw:=mH hE;obtain⟨a1,a2,_⟩:=nw (mS hF hi Xw) (E.length+1) s k b h;unfold da;generalize cz MV.time (dw p (bA p)) E (E.length+1) s k b=Q at*;by_cases c:Q.1.time=T
  ·rw[if_pos c,if_pos c];exact Nat.le_refl _
  rw[if_neg c,if_neg c];obtain⟨c1,c2⟩:=pq hF hi a1;by_cases d:(F inp Q.1).time=Q.1.time
  ·rw[if_pos d];show Q.2.1<=_;split
   ·exact Nat.le_refl _
   ·exact yh _ _ _ _ _
  ·rw[if_neg d];have h4:(F inp Q.1).time=Q.1.time+1/\(F inp Q.1).status≠1:=c2.elim (fun e=>(d e).elim) fun e=>⟨e.1,e.2.1⟩
   have e:F (inp++[y]) Q.1=F inp Q.1:=DJ hF hi VE a1.mi a1.i0 h4.2 (GO c1.i1);rw[e,if_neg d];exact FC h1 hy n _ Q.2.1 Q.2.2 c1 jB
include hs
theorem Gh(t:Int):0<=(runM p F inp E t).1.time:=(rA hs hF hi hE t).1.t0
variable{t:Int}
theorem Qm{t':Int}(h0:0<=t')(ht:t'<=(runM p F inp E t).1.time):(runM p F inp E t').1.time=t':=by obtain⟨a,b,_⟩:=pX hs inp;have hf:=(rA hs hF hi hE t).2;obtain⟨c0,c1⟩:=yJ t;have e2:=tI (t:=t') h0 jB;unfold runM at ht ⊢;rw[e2];exact D9 hF hi hE c1 (by unfold runM at hf;omega) ((dM t-(m0V p).time).toNat+1) _ (m0V p) 0 false a jB jB jB ht
theorem Ez(h0:0<=t)(h1:t+1<=200):(runM p F inp E (t+1)).1.time=t+1<->(runM p F inp E t).1.time=t/\(F inp (runM p F inp E t).1).time=t+1:=by obtain⟨a,b,_⟩:=pX hs inp;have e1:=tI (t:=t) h0 jB;have e2:=tI (t:=t+1) jB h1;unfold runM;rw[e1,e2];exact Jz hF hi hE h1 _ _ (m0V p) 0 false a jB jB jB
theorem FE:(runM p F inp E 0).1.time=0:=by have h1:=(rA hs hF hi hE 0).2;have h2:=Gh hs hF hi hE 0;have:dM 0=0:=jC;omega
theorem HD{E':List az}(Xw:∀x∈E',bE x.v.n)(hS:ji E)(hS':ji E')(h0:0<=t)(h1:t<=200)(e:cv E (t-1)=cv E' (t-1))(h:(runM p F inp E t).1.time=t):(runM p F inp E' t).1.time=t:=by
 by_cases c:t=0
 ·subst c;exact FE hs hF hi Xw
 obtain⟨u,rfl⟩:∃u,t=u+1:=⟨t-1,jB⟩;have hu:u+1-1=u:=jB;rw[hu]at e;have hr:=IT hs hF hi hE Xw hS hS' (t:=u) jB jB e;have h2:=(Ez hs hF hi hE (t:=u) jB h1).1 h;refine(Ez hs hF hi Xw (t:=u) jB h1).2 ?_;rw[<-hr];exact h2
theorem zM(hm:∀x∈E,x.at_<=200):badM p F inp E 200=0<->(runM p F inp E 200).2.1=E.length:=by
 obtain⟨a,b,_⟩:=pX hs inp;have e1:dM 200=200:=jC;have hk:(runM p F inp E 200).2.1<=E.length:=by unfold runM;rw[e1];exact(sP (mS hF hi (mH hE)) jC _ (m0V p) 0 false a jB (Nat.zero_le _)).2.1
 unfold badM l5;rw[e1];by_cases c:(runM p F inp E 200).2.1<E.length
 ·rw[if_pos ⟨c,hm _ (fa c)⟩];exact⟨fun e=>jB,fun e=>jB⟩
 ·rw[if_neg (fun h=>c h.1)];exact⟨fun _=>jB,fun _=>rfl⟩
theorem TR(hm:∀x∈E,x.at_<=200){y:Int}(hy:bE y)(h:badM p F inp E 200=0):badM p F (inp++[y]) E 200=0:=by
 have VE:∀x∈inp++[y],bE x:=fun x hx=>(List.mem_append.1 hx).elim (hi x) (fun hx=>by rw[List.mem_singleton.1 hx];exact hy)
 obtain⟨a,b,_⟩:=pX hs inp;obtain⟨a',_,_⟩:=pX hs (inp++[y]);have h1:=(zM hs hF hi hE hm).1 h;refine(zM hs hF VE hE hm).2 ?_;have e1:dM 200=200:=jC;have h2:=FC hF hi hE (T:=200) jC hy ((200-(m0V p).time).toNat+1) (m0V p) 0 false a jB;have hk:=(sP (mS hF VE (mH hE)) (t:=200) jC ((200-(m0V p).time).toNat+1) (m0V p) 0 false a' jB (Nat.zero_le _)).2.1;unfold runM at h1 ⊢;rw[e1]at h1 ⊢;omega
theorem MU(hm:∀x∈E,x.at_<=200)(hS:ji E)(h0:0<=t)(ht:t<=200){inp':UP}(VE:∀x∈inp',bE x)(h:badM p F inp E 200=0)(hr:(runM p F inp E t).1.time=t)(ha:fv (runM p F inp E t).1.in_ inp inp'):badM p F inp' (cv E t) 200=0:=by
 obtain⟨K,h2,h3,h4⟩:=DF (t:=t) E hS;obtain⟨a,b,_⟩:=pX hs inp;obtain⟨a',_,_⟩:=pX hs inp';have ec:=tI h0 ht;have e1:dM 200=200:=jC;have h1:=(zM hs hF hi hE hm).1 h;have hEe:∀x∈cv E t,bE x.v.n:=fun x hx=>hE x (rL hx).1
 have U6:=B9 (mS hF hi (mH hE)) ht h4 ((t-(m0V p).time).toNat+1) (m0V p) 0 false a jB (Nat.zero_le _);have WM:=CU (tm:=MV.time) (st:=F inp) (se:=dw p (bA p)) (E:=E) h2 (t:=t) ((t-(m0V p).time).toNat+1) (m0V p) 0 false false (Nat.zero_le _) (fun _=>rfl) U6;refine(zM hs hF VE hEe fun x hx=>hm x (rL hx).1).2 ?_;have hEk:∀x∈E.take K,bE x.v.n:=fun x hx=>hE x (List.mem_of_mem_take hx)
 unfold runM at h1 hr ha ⊢;rw[e1]at h1 ⊢;rw[ec]at hr ha;have Vj:=HU hF hi hE (T:=200) jC ht ((200-(m0V p).time).toNat+1) ((t-(m0V p).time).toNat+1) (m0V p) 0 false a jB jB jB h1 hr;rw[h3];have WB:=DO hF hi (mH hEk) ht VE ((t-(m0V p).time).toNat+1) (m0V p) 0 false a jB (.inl (by rw[WM.1];exact hr)) (by rw[WM.1];exact ha);have hmo:=IC hF VE hEk ht ((200-(m0V p).time).toNat+1) ((t-(m0V p).time).toNat+1) (m0V p) 0 false a' jB jB;have XY:=(sP (mS hF VE (mH hEk)) (t:=200) jC ((200-(m0V p).time).toNat+1) (m0V p) 0 false a' jB (Nat.zero_le _)).2.1;rw[WB,WM.2]at hmo;have O':(E.take K).length=K:=by rw[List.length_take];omega
 have hge:K<=(da MV.time (F inp) (dw p (bA p)) E t ((t-(m0V p).time).toNat+1) (m0V p) 0 false).2.1:=by
  refine Nat.le_of_not_lt fun I'=>?_
  have hx:=Vj jB;have VI:nth E (da MV.time (F inp) (dw p (bA p)) E t ((t-(m0V p).time).toNat+1) (m0V p) 0 false).2.1∈cv E t:=by rw[h3,<-zX I'];exact fa jB
  have:=(rL VI).2;omega
 rw[O']at XY ⊢;omega
end
def UN(l:List ar):Prop:=∀i j,i<l.length->j<l.length->(nth l i).name=(nth l j).name->i=j
variable{l:List ar}
def UN.find(h:UN l){j:Nat}(hj:j<l.length):dp (nth l j).name l 0=(j:Int):=FX hj rfl fun i hi e=>by have:=h i j jB hj e;omega
theorem UN.set{l:List ar}(h:UN l){n:Nat}{b:ar}(hu:∀j,j<l.length->j≠n->(nth l j).name≠b.name):UN (l.set n b):=fun i j hi hj e=>by
 have hi:i<l.length:=by simpa using hi
 have hj:j<l.length:=by simpa using hj
 rw[sr hi,sr hj]at e;by_cases c:n=i<;>by_cases d:n=j
 ·omega
 ·rw[if_pos c,if_neg d]at e;exact(hu j hj (fun h=>d h.symm) e.symm).elim
 ·rw[if_neg c,if_pos d]at e;exact(hu i hi (fun h=>c h.symm) e).elim
 ·rw[if_neg c,if_neg d]at e;exact h i j hi hj e
def UN.app(h:UN l){b:ar}(hu:∀j,j<l.length->(nth l j).name≠b.name):UN (l++[b]):=fun i j hi hj e=>by
 have hi:i<l.length+1:=by simpa using hi
 have hj:j<l.length+1:=by simpa using hj
 rw[Aq hi,Aq hj]at e;by_cases c:i<l.length<;>by_cases d:j<l.length
 ·rw[if_pos c,if_pos d]at e;exact h i j c d e
 ·rw[if_pos c,if_neg d]at e;exact(hu i c e).elim
 ·rw[if_neg c,if_pos d]at e;exact(hu j d e.symm).elim
 ·omega
def UN.erase(h:UN l){n:Nat}(hn:n<l.length):UN (jt l n):=fun i j hi hj e=>by
 rw[wg hn hi,wg hn hj]at e;rw[qt hn]at hi hj;by_cases c:i<n<;>by_cases d:j<n
 ·rw[if_pos c,if_pos d]at e;exact h i j jB jB e
 ·rw[if_pos c,if_neg d]at e;have:=h i (j+1) jB jB e;omega
 ·rw[if_neg c,if_pos d]at e;have:=h (i+1) j jB jB e;omega
 ·rw[if_neg c,if_neg d]at e;have:=h (i+1) (j+1) jB jB e;omega
structure BI(p:af)(F:List Int->MV->MV)(b:ar):Prop where
 w:BW b
 s:ji b.base
 so:ji b.own
 nm:fl b.name=true
 mb:∀x∈b.base,jS x=true
 mo:∀x∈b.own,jS x=true
 bad:badB p F b=0
section
variable {p:af}{F:UP->MV->MV}{b:ar}
def BI.sf(h:BI p F b):∀x∈dr b,jS x=true:=fun x hx=>(Qh.1 hx).elim (h.mb x) (h.mo x)
def BI.xa(h:BI p F b):∀x∈dr b,x.at_<=200:=fun x hx=>(A6 (h.sf x hx)).2
def BI.lB(h:BI p F b):ji (dr b):=Ds h.s
variable{nm:UR}
def BI.bT(h:BI p F b)(hn:fl nm=true):BI p F { b with name:=nm }:=
 ⟨⟨⟨h.w.ok.inl,h.w.ok.rR,h.w.ok.pz,h.w.ok.inr,h.w.ok.xV,h.w.ok.vS⟩,h.w.i16,h.w.s8⟩,h.s,h.so,hn,h.mb,h.mo,h.bad⟩
def Hv{ok:Bool}{x:az}(e:(forkB p F ok b nm x).2=0):(forkB p F ok b nm x).1=⟨nm,b.aD,cv (dr b) x.at_,[x]⟩/\(cv (dr b) x.at_).length<8/\ok=true/\jS x=true/\badB p F ⟨nm,b.aD,cv (dr b) x.at_,[x]⟩=0:=by
 unfold forkB at e ⊢;split at e
 ·cases e
 rename_i c1;split at e
 ·cases e
 split at e
 ·cases e
 unfold fineB at e ⊢;split at e
 ·cases e
 rename_i c2 c3 c4;rw[if_neg c1,if_neg c2,if_neg c3,if_neg c4];refine⟨rfl,jB,?_,?_,Classical.not_not.1 c4⟩
 ·cases ok
  ·exact(c1 (.inl rfl)).elim
  ·rfl
 ·cases hm:jS x
  ·exact(c1 (.inr hm)).elim
  ·rfl
def Ib{ok:Bool}{t n:Int}(e:(inputB p F ok b nm t n).2=0):(inputB p F ok b nm t n).1=⟨nm,b.aD.take (atB p F b t).in_.toNat++[n],cv (dr b) t,[]⟩/\(atB p F b t).in_<16/\ok=true/\0<=t/\t<=200/\¬(atB p F b t).time<t:=by
 unfold inputB at e ⊢;split at e
 ·cases e
 rename_i c1;split at e
 ·cases e
 split at e
 ·cases e
 rename_i c2 c3;rw[if_neg c1,if_neg c2,if_neg c3];refine⟨rfl,jB,?_,jB,jB,c2⟩;cases ok
 ·exact(c1 (.inl rfl)).elim
 ·rfl
def I1{x:az}(e:(addB p F b x).2=0):(addB p F b x).1={ b with own:=gX x b.own }/\b.base.length+b.own.length<8/\jS x=true/\badB p F { b with own:=gX x b.own }=0:=by
 unfold addB at e ⊢;split at e
 ·cases e
 rename_i c1;split at e
 ·cases e
 unfold fineB at e ⊢;split at e
 ·cases e
 rename_i c2 c3;rw[if_neg c1,if_neg c2,if_neg c3];refine⟨rfl,jB,?_,Classical.not_not.1 c3⟩;cases hm:jS x
 ·exact(c1 hm).elim
 ·rfl
def Jb{n:Int}(e:(ov b n).2=0):(ov b n).1={ b with aD:=b.aD++[n] }/\b.aD.length<16:=by
 unfold ov at e ⊢;split at e
 ·cases e
 rename_i c1;rw[if_neg c1];exact⟨rfl,jB⟩
def G2{a o:ar}(e:(rebaseB p F a o).2.2=0):(rebaseB p F a o).1=⟨a.name,o.aD,dr o,a.own⟩/\(dr o).length+a.own.length<=8/\badB p F ⟨a.name,o.aD,dr o,a.own⟩=0:=by
 unfold rebaseB at e ⊢;split at e
 ·cases e
 rename_i c1;split at e
 ·cases e
 rename_i c2;rw[if_neg c1,if_neg c2];exact⟨rfl,jB,Classical.not_not.1 c2⟩
end
section
variable {p:af}(hs:gi p){F:UP->MV->MV}(hF:bH p (bA p) F){b:ar}(h:BI p F b)
include h
variable{nm:UR}{x:az}
theorem Q8(hx:bE x.v.n)(e:(forkB p F (fl nm) b nm x).2=0):BI p F (forkB p F (fl nm) b nm x).1:=by obtain⟨e1,e2,e3,e4,e5⟩:=Hv e;rw[e1];exact⟨⟨h.w.ok.early x.at_ jB nm hx,h.w.i16,by show(cv (dr b) x.at_).length+1<=8;omega⟩,xg h.lB,⟨fun y hy=>by simp at hy,trivial⟩,e3,fun y hy=>h.sf y (rL hy).1,fun y hy=>by rw[List.mem_singleton.1 hy];exact e4,e5⟩
theorem Ud(hx:bE x.v.n)(e:(addB p F b x).2=0):BI p F (addB p F b x).1:=by
 obtain⟨e1,e2,e3,e4⟩:=I1 e;rw[e1];have hl:=Go.Gd.iH x b.own;exact⟨⟨h.w.ok.ins jB hx,h.w.i16,by show b.base.length+(gX x b.own).length<=8;omega⟩,h.s,yb x h.so,h.nm,h.mb,fun y hy=>by
  rcases uS.1 hy with rfl|hy
  ·exact e3
  ·exact h.mo y hy,e4⟩
theorem Rb{o:ar}(ho:BI p F o)(e:(rebaseB p F b o).2.2=0):BI p F (rebaseB p F b o).1:=by obtain⟨e1,e2,e3⟩:=G2 e;rw[e1];exact⟨⟨h.w.ok.kv ho.w.ok jB,ho.w.i16,e2⟩,ho.lB,h.so,h.nm,ho.sf,h.mo,e3⟩
include hs hF
variable{t n:Int}
theorem N4(hn:bE n)(e:(inputB p F (fl nm) b nm t n).2=0):BI p F (inputB p F (fl nm) b nm t n).1:=by
 obtain⟨e1,e2,e3,e4,e5,e6⟩:=Ib e;rw[e1];have hf:=rA hs hF h.w.ok.inr h.w.ok.fq t;have V3:(atB p F b t).in_=(runM p F b.aD (dr b) t).1.in_:=rfl;have XL:(atB p F b t).time=(runM p F b.aD (dr b) t).1.time:=rfl;rw[XL]at e6;rw[V3]at e2 ⊢;have VE:∀x∈b.aD.take (runM p F b.aD (dr b) t).1.in_.toNat++[n],bE x:=fun x hx=>(List.mem_append.1 hx).elim (fun hx=>h.w.ok.inr x (List.mem_of_mem_take hx)) (fun hx=>by rw[List.mem_singleton.1 hx];exact hn)
 have Wr:(b.aD.take (runM p F b.aD (dr b) t).1.in_.toNat++[n]).length<=16:=by rw[List.length_append,List.length_take];simp only[List.length_cons,List.length_nil];omega
 have WV:=AQ (dr b) t;have h8:=h.w.re;refine⟨⟨⟨Nat.le_trans Wr jC,by show(cv (dr b) t).length<=100;omega,by show 0<=100;decide,VE,fun y hy=>h.w.ok.fq y (rL hy).1,fun y hy=>(by cases hy)⟩,Wr,by show(cv (dr b) t).length+0<=8;omega⟩,xg h.lB,trivial,e3,fun y hy=>h.sf y (rL hy).1,fun y hy=>(by cases hy),?_⟩;show badM p F _ (cv (dr b) t) 200=0;refine MU hs hF h.w.ok.inr h.w.ok.fq h.xa h.lB e4 e5 VE h.bad ?_ (Gu hf.1.i1);have h2:=hf.2;rw[tI e4 e5]at h2;omega
theorem Nc(hn:bE n)(e:(ov b n).2=0):BI p F (ov b n).1:=by
 obtain⟨e1,e2⟩:=Jb e;rw[e1];have VE:∀x∈b.aD++[n],bE x:=fun x hx=>(List.mem_append.1 hx).elim (h.w.ok.inr x) (fun hx=>by rw[List.mem_singleton.1 hx];exact hn)
 have Wr:(b.aD++[n]).length<=16:=by rw[List.length_append];simp only[List.length_cons,List.length_nil];omega
 exact⟨⟨⟨Nat.le_trans Wr jC,h.w.ok.rR,h.w.ok.pz,VE,h.w.ok.xV,h.w.ok.vS⟩,Wr,h.w.s8⟩,h.s,h.so,h.nm,h.mb,h.mo,TR hs hF h.w.ok.inr h.w.ok.fq h.xa hn h.bad⟩
theorem Q6(t:Int):0<=comesB p F b t/\comesB p F b t<=dM t/\comesB p F b t<=200:=by have h1:=Gh hs hF h.w.ok.inr h.w.ok.fq t;have h2:=(rA hs hF h.w.ok.inr h.w.ok.fq t).2;have h3:=yJ t;show 0<=(runM p F b.aD (dr b) t).1.time/\(runM p F b.aD (dr b) t).1.time<=dM t/\(runM p F b.aD (dr b) t).1.time<=200;omega
theorem F8{t':Int}(h0:0<=t')(ht:t'<=comesB p F b t):comesB p F b t'=t':=Qm hs hF h.w.ok.inr h.w.ok.fq h0 ht
theorem KJ(hx:bE x.v.n)(hm:jS x=true)(e:comesB p F b x.at_=x.at_):comesB p F ⟨nm,b.aD,cv (dr b) x.at_,[x]⟩ x.at_=x.at_:=by
 obtain⟨h0,h1⟩:=A6 hm;refine HD hs hF h.w.ok.inr (E:=dr b) h.w.ok.fq (E':=gX x (cv (dr b) x.at_)) (fun y hy=>?_) h.lB (yb x (xg h.lB)) h0 h1 ?_ e
 ·rcases uS.1 hy with rfl|hy
  ·exact hx
  ·exact h.w.ok.fq y (rL hy).1
 ·rw[Ad jB,J5 jB]
theorem Ts(hx:bE x.v.n)(hm:jS x=true)(e:comesB p F b x.at_=x.at_):comesB p F { b with own:=gX x b.own } x.at_=x.at_:=by
 obtain⟨h0,h1⟩:=A6 hm;refine HD hs hF h.w.ok.inr (E:=ie b.base b.own) h.w.ok.fq (E':=ie b.base (gX x b.own)) (fun y hy=>?_) h.lB (Ds h.s) h0 h1 ?_ e
 ·rcases Ah.1 hy with hy|hy
  ·exact h.w.ok.xV y hy
  rcases uS.1 hy with rfl|hy
  ·exact hx
  ·exact h.w.ok.vS y hy
 ·rw[CW h.s,CW h.s,Ad jB]
theorem OZ(hn:bE n)(h0:0<=t)(h1:t<=200)(e:comesB p F b t=t):comesB p F { b with aD:=b.aD++[n] } t=t:=by
 have VE:∀x∈b.aD++[n],bE x:=fun x hx=>(List.mem_append.1 hx).elim (h.w.ok.inr x) (fun hx=>by rw[List.mem_singleton.1 hx];exact hn)
 have hf:=rA hs hF h.w.ok.inr h.w.ok.fq t;have e:(runM p F b.aD (dr b) t).1.time=t:=e;have hr:=GK hs hF h.w.ok.inr h.w.ok.fq h0 (Int.le_refl t) h1 jB VE (GO hf.1.i1);show(runM p F (b.aD++[n]) (dr b) t).1.time=t;rw[hr.1];exact hr.2
theorem L0(hn:bE n)(h0:0<=t)(h1:t<=200)(e:comesB p F b t=t):comesB p F ⟨nm,b.aD.take (atB p F b t).in_.toNat++[n],cv (dr b) t,[]⟩ t=t:=by
 have hf:=rA hs hF h.w.ok.inr h.w.ok.fq t;have e:(runM p F b.aD (dr b) t).1.time=t:=e;show(runM p F (b.aD.take (runM p F b.aD (dr b) t).1.in_.toNat++[n]) (cv (dr b) t) t).1.time=t;have VE:∀x∈b.aD.take (runM p F b.aD (dr b) t).1.in_.toNat++[n],bE x:=fun x hx=>(List.mem_append.1 hx).elim (fun hx=>h.w.ok.inr x (List.mem_of_mem_take hx)) (fun hx=>by rw[List.mem_singleton.1 hx];exact hn)
 have hr:=GK hs hF h.w.ok.inr h.w.ok.fq h0 (Int.le_refl t) h1 jB VE (Gu hf.1.i1);rw[IT hs hF VE (fun y hy=>h.w.ok.fq y (rL hy).1) h.w.ok.fq (xg h.lB) h.lB h0 h1 (J5 (Int.le_refl t) _),hr.1];exact hr.2
end
section
variable (p:af)(F:UP->MV->MV)
noncomputable def doesW(w:aU)(o:mF):aU×Int×Int:=
 if o.kind % 9=0 then((goW p F w o.n).1,0,(goW p F w o.n).2)
 else if o.kind % 9=1 then((switchW p F w o.name).1,0,(switchW p F w o.name).2)
 else if o.kind % 9=2 then((forkW p F w o.name o.more o.v).1,0,(forkW p F w o.name o.more o.v).2)
 else if o.kind % 9=3 then((inputW p F w o.name o.n).1,0,(inputW p F w o.name o.n).2)
 else if o.kind % 9=4 then((addW p F w o.more o.v).1,0,(addW p F w o.more o.v).2)
 else if o.kind % 9=5 then((appendW w o.n).1,0,(appendW w o.n).2)
 else if o.kind % 9=6 then((ng (fl o.more) w o.name o.more).1,0,(ng (fl o.more) w o.name o.more).2)
 else if o.kind % 9=7 then((pruneW p F w (dp o.name w.l 0)).1,0,(pruneW p F w (dp o.name w.l 0)).2)
 else rebaseW p F w (dp o.name w.l 0) (dp o.more w.l 0)
noncomputable def woodsW(l:List mF):Nat->aU
 |0=>sO
 |k+1=>(doesW p F (woodsW l k) (oP (nth l k))).1
end
structure WJ(p:af)(F:List Int->MV->MV)(w:aU):Prop where
 l8:w.l.length<=8
 c0:0<=w.cur
 c1:w.cur<w.l.length
 b:∀k,k<w.l.length->BI p F (nth w.l k)
 t0:0<=w.time
 t1:w.time<=200
 un:UN w.l
structure WI(p:af)(F:List Int->MV->MV)(w:aU):Prop where
 j:WJ p F w
 co:comesB p F (curB w) w.time=w.time
section
variable {p:af}{F:UP->MV->MV}{w:aU}
def WJ.ok(h:WJ p F w):jh w:=⟨by have:=h.l8;omega,h.c0,h.c1,fun k hk=>(h.b k hk).w,⟨by have:=h.t0;omega,by have:=h.t1;omega⟩⟩
def WJ.ck(h:WJ p F w):w.cur.toNat<w.l.length:=by have:=h.c0;have:=h.c1;omega
def WJ.cb(h:WJ p F w):BI p F (curB w):=h.b _ h.ck
theorem WJ.set(h:WJ p F w){n:Nat}{b:ar}(hb:BI p F b)(hu:∀j,j<w.l.length->j≠n->(nth w.l j).name≠b.name):WJ p F { w with l:=w.l.set n b }:=
 ⟨by show(w.l.set n b).length<=8;rw[List.length_set];exact h.l8,h.c0,by show w.cur<(w.l.set n b).length;rw[List.length_set];exact h.c1,fun k hk=>by
  have hk:k<w.l.length:=by simpa using hk
  show BI p F (nth (w.l.set n b) k);rw[sr hk];split
  ·exact hb
  ·exact h.b k hk,h.t0,h.t1,h.un.set hu⟩
theorem WJ.app(h:WJ p F w)(h7:w.l.length<8){b:ar}(hb:BI p F b)(hu:∀j,j<w.l.length->(nth w.l j).name≠b.name):WJ p F { w with l:=w.l++[b],cur:=w.l.length }:=
 ⟨by show(w.l++[b]).length<=8;simp;omega,by show(0:Int)<=w.l.length;omega,by show(w.l.length:Int)<(w.l++[b]).length;simp;omega,fun k hk=>by
  have hk:k<w.l.length+1:=by simpa using hk
  show BI p F (nth (w.l++[b]) k);rw[Aq hk];split
  ·rename_i c;exact h.b k c
  ·exact hb,h.t0,h.t1,h.un.app hu⟩
def WJ.CD(h:WJ p F w){n:Nat}(hn:n<w.l.length){c:Int}(h0:0<=c)(h1:c<w.l.length-1):WJ p F { w with l:=jt w.l n,cur:=c }:=
 ⟨by show(jt w.l n).length<=8;rw[qt hn];have:=h.l8;omega,h0,by show c<(jt w.l n).length;rw[qt hn];omega,fun j hj=>by
  have hj:j<(jt w.l n).length:=hj;show BI p F (nth (jt w.l n) j);rw[wg hn hj];rw[qt hn]at hj;split
  ·exact h.b j jB
  ·exact h.b (j+1) jB,h.t0,h.t1,h.un.erase hn⟩
end
section
variable {p:af}(hs:gi p){F:UP->MV->MV}(hF:bH p (bA p) F)
include hs hF
theorem WJ.held{w:aU}(h:WJ p F w):WI p F (V' p F w):=by obtain⟨a,_,c⟩:=Q6 hs hF h.cb w.time;exact⟨⟨h.l8,h.c0,h.c1,h.b,a,c,h.un⟩,F8 hs hF h.cb a (Int.le_refl _)⟩
theorem Lx:WI p F sO:=by
 have hb:BI p F ⟨(⟨#[109,97,105,110]⟩:UR),[],[],[]⟩:=⟨⟨⟨jC,jC,jC,fun x hx=>(by cases hx),fun x hx=>(by cases hx),fun x hx=>(by cases hx)⟩,jC,jC⟩,trivial,trivial,jC,fun x hx=>(by cases hx),fun x hx=>(by cases hx),by show l5 [] (dM 200) (runM p F [] [] 200)=0;unfold l5;exact if_neg fun h=>Nat.not_lt_zero _ h.1⟩
 refine⟨⟨jC,jC,jC,fun k hk=>?_,jC,jC,fun i j hi hj _=>?_⟩,FE hs hF (inp:=[]) (E:=[]) (fun x hx=>by cases hx) fun x hx=>by cases hx⟩
 ·have hk:k<1:=hk;obtain rfl:k=0:=jB;exact hb
 ·have hi:i<1:=hi;have hj:j<1:=hj;omega
variable {w:aU}(h:WI p F w)
include h
theorem SY(t:Int):WI p F (goW p F w t).1:=by
 unfold goW;split
 ·exact h
 rename_i c;exact⟨⟨h.j.l8,h.j.c0,h.j.c1,h.j.b,by show 0<=t;omega,by show t<=200;omega,h.j.un⟩,F8 hs hF h.j.cb (t:=t) (t':=t) jB jB⟩
theorem Tb(nm:UR):WI p F (switchW p F w nm).1:=by
 unfold switchW;split
 ·exact h
 rename_i c;obtain⟨n,h1,h2,_⟩:=xY c;exact WJ.held hs hF ⟨h.j.l8,by show 0<=dp nm w.l 0;omega,by show dp nm w.l 0<w.l.length;omega,h.j.b,h.j.t0,h.j.t1,h.j.un⟩
variable{nm:UR}
theorem F7{x:ar}{e:Int}(hx:e=0->BI p F x/\x.name=nm/\comesB p F x w.time=w.time):WI p F (pY w nm x e).1:=by
 unfold pY;split
 ·exact h
 rename_i c1;split
 ·exact h
 rename_i c2;split
 ·exact h
 rename_i c3;obtain⟨a,b,c⟩:=hx (Classical.not_not.1 c3);refine⟨h.j.app jB a (fun j hj=>b ▸ BO jB j hj),?_⟩;show comesB p F (nth (w.l++[x]) (w.l.length:Int).toNat) w.time=w.time;rw[Int.toNat_natCast,Aq jB,jN];exact c
theorem UA{va:UR}{v:aj}(hv:bE v.n):WI p F (forkW p F w nm va v).1:=by
 unfold forkW;refine F7 hs hF h fun e=>?_
 obtain⟨e1,_,_,e4,_⟩:=Hv e;refine⟨Q8 h.j.cb hv e,by rw[e1],?_⟩;rw[e1];exact KJ hs hF h.j.cb (x:=⟨w.time,va,v⟩) hv e4 h.co
theorem KC{n:Int}(hn:bE n):WI p F (inputW p F w nm n).1:=by
 unfold inputW;refine F7 hs hF h fun e=>?_
 obtain⟨e1,_⟩:=Ib e;refine⟨N4 hs hF h.j.cb hn e,by rw[e1],?_⟩;rw[e1];exact L0 hs hF h.j.cb hn h.j.t0 h.j.t1 h.co
theorem GY{b:ar}{e:Int}(hb:e=0->BI p F b/\b.name=(curB w).name/\comesB p F b w.time=w.time):WI p F (qU w b e).1:=by
 unfold qU;split
 ·exact h
 rename_i c3;obtain⟨a,b',c⟩:=hb (Classical.not_not.1 c3);refine⟨h.j.set a fun j hj VM e=>VM (h.j.un j _ hj h.j.ck (e.trans b')),?_⟩;show comesB p F (nth (w.l.set w.cur.toNat b) w.cur.toNat) w.time=w.time;rw[sr h.j.ck,if_pos rfl];exact c
theorem Tq{v:aj}(hv:bE v.n):WI p F (addW p F w nm v).1:=by
 unfold addW;refine GY hs hF h fun e=>?_
 obtain⟨e1,_,e3,_⟩:=I1 e;refine⟨Ud h.j.cb hv e,by rw[e1],?_⟩;rw[e1];exact Ts hs hF h.j.cb (x:=⟨w.time,nm,v⟩) hv e3 h.co
theorem M0{n:Int}(hn:bE n):WI p F (appendW w n).1:=by
 unfold appendW;refine GY hs hF h fun e=>?_
 obtain⟨e1,_⟩:=Jb e;refine⟨Nc hs hF h.j.cb hn e,by rw[e1],?_⟩;rw[e1];exact OZ hs hF h.j.cb hn h.j.t0 h.j.t1 h.co
theorem H4(old nm:UR):WI p F (ng (fl nm) w old nm).1:=by
 unfold ng;split
 ·exact h
 rename_i c1;split
 ·exact h
 rename_i c2;split
 ·exact h
 rename_i c3;obtain⟨n,h1,h2,h3⟩:=xY c1;rw[h2,Int.toNat_natCast];have hok:fl nm=true:=by cases e:fl nm<;>simp_all
 refine⟨h.j.set ((h.j.b n h1).bT hok) fun j hj _=>BO (nm:=nm) jB j hj,?_⟩;show comesB p F (nth (w.l.set n { nth w.l n with name:=nm }) w.cur.toNat) w.time=w.time;rw[sr h.j.ck];split
 ·rename_i c;rw[c];exact h.co
 ·exact h.co
theorem Lt(nm:UR):WI p F (pruneW p F w (dp nm w.l 0)).1:=by
 unfold pruneW;split
 ·exact h
 rename_i c1;split
 ·exact h
 rename_i c2;obtain⟨n,h1,h2,h3⟩:=xY (nm:=nm) (l:=w.l) jB;rw[h2]at c2 ⊢;rw[Int.toNat_natCast];have Wu:=h.j.c0;have Vn:=h.j.c1;by_cases c3:(n:Int)<w.cur
 ·rw[if_pos c3];refine⟨h.j.CD h1 jB jB,?_⟩;show comesB p F (nth (jt w.l n) (w.cur-1).toNat) w.time=w.time;rw[wg h1 (by rw[qt h1];omega),jN,show(w.cur-1).toNat+1=w.cur.toNat from jB];exact h.co
 rw[if_neg c3];by_cases c4:w.cur=n
 ·rw[if_pos c4];exact WJ.held hs hF (h.j.CD h1 (c:=0) jB jB)
 ·rw[if_neg c4];refine⟨h.j.CD h1 (c:=w.cur) jB jB,?_⟩;show comesB p F (nth (jt w.l n) w.cur.toNat) w.time=w.time;rw[wg h1 (by rw[qt h1];omega),jP];exact h.co
theorem NN(a o:UR):WI p F (rebaseW p F w (dp a w.l 0) (dp o w.l 0)).1:=by
 unfold rebaseW;split
 ·exact h
 rename_i c1;split
 ·exact h
 split
 ·exact h
 split
 ·exact h
 rename_i c2 c3 c4;obtain⟨n,h1,h2,h3⟩:=xY (nm:=a) (l:=w.l) jB;obtain⟨m,g1,g2,g3⟩:=xY (nm:=o) (l:=w.l) jB;rw[h2,g2]at c4 ⊢;simp only[Int.toNat_natCast]at c4 ⊢;have e:=Classical.not_not.1 c4;have e1:=(G2 e).1;have hj:=h.j.set (n:=n) (Rb (h.j.b n h1) (h.j.b m g1) e) fun j hj VM e2=>by rw[e1]at e2;exact VM (h.j.un j n hj h1 e2)
 split
 ·exact WJ.held hs hF hj
 ·rename_i c5;refine⟨hj,?_⟩;show comesB p F (nth (w.l.set n _) w.cur.toNat) w.time=w.time;have:=h.j.c0;rw[sr h.j.ck,jN];exact h.co
theorem Pp{o:mF}(hn:bE o.n)(hv:bE o.v.n):WI p F (doesW p F w o).1:=by
 unfold doesW;split
 ·exact SY hs hF h _
 split
 ·exact Tb hs hF h _
 split
 ·exact UA hs hF h hv
 split
 ·exact KC hs hF h hn
 split
 ·exact Tq hs hF h hv
 split
 ·exact M0 hs hF h hn
 split
 ·exact H4 hs hF h _ _
 split
 ·exact Lt hs hF h _
 ·exact NN hs hF h _ _
omit h
theorem DU{l:List mF}(hl:∀x∈l,bE x.n/\bE x.v.n):∀k,k<=l.length->WI p F (woodsW p F l k)
 |0,_=>Lx hs hF
 |k+1,hk=>by have hx:=hl _ (fa (l:=l) (k:=k) jB);exact Pp hs hF (DU hl k jB) (o:=oP (nth l k)) hx.1 hx.2
end
def RD{w:aU}(hu:UN w.l){k:Nat}(hk:k<w.l.length)(ho:fl (nth w.l k).name=true){nm:UR}(hn:fl nm=true)(hf:dp nm w.l 0<0) :
  ng (fl nm) w (nth w.l k).name nm=({ w with l:=w.l.set k { nth w.l k with name:=nm } },0)/\ng (fl (nth w.l k).name) { w with l:=w.l.set k { nth w.l k with name:=nm } } nm (nth w.l k).name=(w,0)/\dp nm (w.l.set k { nth w.l k with name:=nm }) 0=k/\dp (nth w.l k).name (w.l.set k { nth w.l k with name:=nm }) 0<0:=by
 have VM:=BO hf;have U2:=hu.set (n:=k) (b:={ nth w.l k with name:=nm }) fun j hj _=>VM j hj
 have O':(w.l.set k { nth w.l k with name:=nm }).length=w.l.length:=List.length_set;have VF:nth (w.l.set k { nth w.l k with name:=nm }) k={ nth w.l k with name:=nm }:=by rw[sr hk,if_pos rfl]
 have f1:=hu.find hk;have f2:=U2.find (j:=k) jB;rw[VF]at f2;have f2:dp nm (w.l.set k { nth w.l k with name:=nm }) 0=k:=f2;have f3:dp (nth w.l k).name (w.l.set k { nth w.l k with name:=nm }) 0=-1:=EK fun j hj=>by
  have hj:j<w.l.length:=jB;rw[sr hj];by_cases c:k=j
  ·rw[if_pos c];exact fun e=>VM k hk e.symm
  ·rw[if_neg c];exact fun e=>c (hu j k hj hk e).symm
 refine⟨?_,?_,f2,jB⟩
 ·unfold ng;rw[f1,hn,jN,if_neg jC,jN,Int.toNat_natCast]
 ·unfold ng;simp only;rw[f2,f3,ho,jN,if_neg jC,if_neg jC,Int.toNat_natCast,VF];have:(w.l.set k { nth w.l k with name:=nm }).set k { ({ nth w.l k with name:=nm }:ar)with name:=(nth w.l k).name }=w.l:=by
   rw[List.set_set];show w.l.set k (nth w.l k)=w.l;refine List.ext_getElem jE fun j h1 h2=>?_
   rw[List.getElem_set];split
   ·rename_i c;subst c;exact(fM h2)
   ·rfl
  rw[this]
def IX(l:List az)(hl:l.length<=1000):aB prog 54 [aM bv 5 l,aM bv 5 l] (rB true):=by
 refine bF func54 ntmps54 ?_
 (repeat' (first|refine aq fun K hK=>?_|refine ak ?_|(refine hK _ _ ?_;clear hK K)|(refine ao ?_ ?_<;>intro hc<;>try exact jz)|refine ap ?_|exact jI|(clear hK K)))
 refine ee (S:=Nat) [(4,2),(11,15)] (fun k=>k<=l.length) (fun k=>[(5,rI k)]) (fun _=>⟨[],[]⟩) (fun k=>l.length-k) 0 (Nat.zero_le _) (dZ rfl cr) ?_;rintro k hk Kr U5;by_cases I':k<l.length
 ·(refine S ?_;try exact jI)
  (have W:=I';repeat' (first|refine aq fun K hK=>?_|refine ak ?_|(with_reducible refine gR 6 ?_);refine dE 6 (ba 0 9) mixed ?_|(refine hK _ _ ?_;clear hK K)|(refine ao ?_ ?_<;>intro hc<;>try exact jz)|refine ap ?_|exact jI|(clear hK K)))
  exact U5 _ _ (dY (k+1) jB (by show l.length-(k+1)<l.length-k;omega) rfl cr)
 ·(refine S ?_;try exact jI)
  (have W:=I';repeat' (first|refine aq fun K hK=>?_|refine ak ?_|(refine hK _ _ ?_;clear hK K)|(refine ao ?_ ?_<;>intro hc<;>try exact jz)|refine ap ?_|exact jI|(clear hK K)))
  (refine aW [.tmp 4] ?_;try simp only[go_sem])
def RH{b:ar}(h:ij b):aB prog 30 [.agg (bu b),.agg (bu b)] (rB true):=by
 have h1:=IX b.base (by have:=h.rR;omega);have h2:=IX b.own (by have:=h.pz;omega);have h3:=h.inl;refine bF func30 ntmps30 ?_
 (repeat' (first|refine aq fun K hK=>?_|refine ak ?_|(refine hK _ _ ?_;clear hK K)|(refine ao ?_ ?_<;>intro hc<;>try exact jz)|refine aV 2 ?_|refine aV 3 ?_|refine cp (h1) ?_|refine cp (h2) ?_|refine ap ?_|exact jI|(clear hK K)))
 refine ee (S:=Nat) [(4,1),(7,1),(40,18)] (fun k=>k<=b.aD.length) (fun k=>[(7,rI k)]) (fun _=>⟨[],[(2,.var 49 (bu b)),(3,.var 49 (bu b))]⟩) (fun k=>b.aD.length-k) 0 (Nat.zero_le _) (dZ rfl cr) ?_;rintro k hk Kr U5;by_cases I':k<b.aD.length
 ·(refine S ?_;try exact jI)
  (have W:=I';repeat' (first|refine aq fun K hK=>?_|refine ak ?_|(with_reducible refine gR 8 ?_);refine dE 8 (ba 0 11) mixed ?_|(refine hK _ _ ?_;clear hK K)|(refine ao ?_ ?_<;>intro hc<;>try exact jz)|refine ap ?_|exact jI|(clear hK K)))
  exact U5 _ _ (dY (k+1) jB (by show b.aD.length-(k+1)<b.aD.length-k;omega) rfl cr)
 ·(refine S ?_;try exact jI)
  (have W:=I';repeat' (first|refine aq fun K hK=>?_|refine ak ?_|(refine hK _ _ ?_;clear hK K)|(refine ao ?_ ?_<;>intro hc<;>try exact jz)|refine ap ?_|exact jI|(clear hK K)))
  (refine aW [.tmp 4] ?_;try simp only[go_sem])
def yL(s:UR):aB prog 7 [rS s] (rS (o5 s)):=by
 refine bF func7 ntmps7 ?_
 (repeat' (first|refine aq fun K hK=>?_|refine ak ?_|(refine hK _ _ ?_;clear hK K)|(refine ao ?_ ?_<;>intro hc<;>try exact jz)|refine ap ?_|exact jI|(clear hK K)))
 ·(refine aW [.tmp 2] ?_;try simp only[go_sem])
  unfold o5;rw[jP]
 ·(refine aW [.tmp 2] ?_;try simp only[go_sem])
  unfold o5;rw[jN]
def HQ(o:mF):aB prog 10 [.agg (gV o)] (.agg (gV (oP o))):=by
 have WL:oP o=⟨o.kind,o.n,if 20<o.name.size then o.name.extract 0 20 else o.name,if 20<o.more.size then o.more.extract 0 20 else o.more,{ o.v with s:=if 60<o.v.s.size then o.v.s.extract 0 60 else o.v.s }⟩:=rfl;generalize oP o=O at*;by_cases c1:20<o.name.size<;>by_cases c2:20<o.more.size<;>by_cases c3:60<o.v.s.size
 all_goals
  first|rw[if_pos c1]at WL|rw[if_neg c1]at WL
  first|rw[if_pos c2]at WL|rw[if_neg c2]at WL
  first|rw[if_pos c3]at WL|rw[if_neg c3]at WL
  refine bF func10 ntmps10 ?_
  (have W:=jA c1 (jA c2 (c3));repeat' (first|refine aq fun K hK=>?_|refine ak ?_|(refine hK _ _ ?_;clear hK K)|(refine ao ?_ ?_<;>intro hc<;>try exact jz)|refine aV 1 ?_|refine cC 2 ?_|refine ap ?_|exact jI|(clear hK K)))
  rw[WL]
  (refine aW [.cell 2 44] ?_;try simp only[go_sem])
section
variable {p:af}(hp:mf p)(U7:fg p){F:UP->MV->MV}(hF:bH p (bA p) F)
include hp U7 hF
theorem FO{w:aU}(h:jh w)(o:mF)(hk:0<=o.kind)(hn:bE o.n)(hv:bE o.v.n):aB prog 9 [.agg (cf p),.agg (cL w),.agg (gV o)] (.aQ [.agg (cL (doesW p F w o).1),rI (doesW p F w o).2.1,rI (doesW p F w o).2.2]):=by
 have V4:o.kind.tmod 9=o.kind % 9:=Int.tmod_eq_emod_of_nonneg hk;have hq:o.kind % 9=0\/o.kind % 9=1\/o.kind % 9=2\/o.kind % 9=3\/o.kind % 9=4\/o.kind % 9=5\/o.kind % 9=6\/o.kind % 9=7\/o.kind % 9=8:=jB;unfold doesW;rcases hq with q|q|q|q|q|q|q|q|q
 ·rw[q]at V4 ⊢;rw[if_pos rfl];have h1:=Kx hp U7 hF h o.n hn;generalize goW p F w o.n=X at*;obtain⟨xw,xe⟩:=X;simp only at h1 ⊢;refine bF func9 ntmps9 ?_
  (have W:=V4;repeat' (first|refine aq fun K hK=>?_|refine ak ?_|(refine hK _ _ ?_;clear hK K)|(refine ao ?_ ?_<;>intro hc<;>try exact jz)|refine aV 3 ?_|refine aV 4 ?_|refine cp (h1) ?_|refine ap ?_|exact jI|(clear hK K)))
  (refine aW [.cell 6 37,.tmp 7,.tmp 8] ?_;try simp only[go_sem])
 ·rw[q]at V4 ⊢;rw[if_neg jC,if_pos rfl];have h1:=NQ hp U7 hF h o.name;generalize switchW p F w o.name=X at*;obtain⟨xw,xe⟩:=X;simp only at h1 ⊢;refine bF func9 ntmps9 ?_
  (have W:=V4;repeat' (first|refine aq fun K hK=>?_|refine ak ?_|(refine hK _ _ ?_;clear hK K)|(refine ao ?_ ?_<;>intro hc<;>try exact jz)|refine aV 3 ?_|refine aV 4 ?_|refine cp (h1) ?_|refine ap ?_|exact jI|(clear hK K)))
  (refine aW [.cell 6 37,.tmp 7,.tmp 8] ?_;try simp only[go_sem])
 ·rw[q]at V4 ⊢;rw[if_neg jC,if_neg jC,if_pos rfl];have h1:=Im hp U7 hF h o.name o.more hv;generalize forkW p F w o.name o.more o.v=X at*;obtain⟨xw,xe⟩:=X;simp only at h1 ⊢;refine bF func9 ntmps9 ?_
  (have W:=V4;repeat' (first|refine aq fun K hK=>?_|refine ak ?_|(refine hK _ _ ?_;clear hK K)|(refine ao ?_ ?_<;>intro hc<;>try exact jz)|refine aV 3 ?_|refine aV 4 ?_|refine cp (h1) ?_|refine ap ?_|exact jI|(clear hK K)))
  (refine aW [.cell 6 37,.tmp 7,.tmp 8] ?_;try simp only[go_sem])
 ·rw[q]at V4 ⊢;rw[if_neg jC,if_neg jC,if_neg jC,if_pos rfl];have h1:=QD hp U7 hF h o.name o.n;generalize inputW p F w o.name o.n=X at*;obtain⟨xw,xe⟩:=X;simp only at h1 ⊢;refine bF func9 ntmps9 ?_
  (have W:=V4;repeat' (first|refine aq fun K hK=>?_|refine ak ?_|(refine hK _ _ ?_;clear hK K)|(refine ao ?_ ?_<;>intro hc<;>try exact jz)|refine aV 3 ?_|refine aV 4 ?_|refine cp (h1) ?_|refine ap ?_|exact jI|(clear hK K)))
  (refine aW [.cell 6 37,.tmp 7,.tmp 8] ?_;try simp only[go_sem])
 ·rw[q]at V4 ⊢;rw[if_neg jC,if_neg jC,if_neg jC,if_neg jC,if_pos rfl];have h1:=Ro hp U7 hF h o.more hv;generalize addW p F w o.more o.v=X at*;obtain⟨xw,xe⟩:=X;simp only at h1 ⊢;refine bF func9 ntmps9 ?_
  (have W:=V4;repeat' (first|refine aq fun K hK=>?_|refine ak ?_|(refine hK _ _ ?_;clear hK K)|(refine ao ?_ ?_<;>intro hc<;>try exact jz)|refine aV 3 ?_|refine aV 4 ?_|refine cp (h1) ?_|refine ap ?_|exact jI|(clear hK K)))
  (refine aW [.cell 6 37,.tmp 7,.tmp 8] ?_;try simp only[go_sem])
 ·rw[q]at V4 ⊢;rw[if_neg jC,if_neg jC,if_neg jC,if_neg jC,if_neg jC,if_pos rfl];have h1:=Uf h o.n;generalize appendW w o.n=X at*;obtain⟨xw,xe⟩:=X;simp only at h1 ⊢;refine bF func9 ntmps9 ?_
  (have W:=V4;repeat' (first|refine aq fun K hK=>?_|refine ak ?_|(refine hK _ _ ?_;clear hK K)|(refine ao ?_ ?_<;>intro hc<;>try exact jz)|refine aV 3 ?_|refine aV 4 ?_|refine cp (h1) ?_|refine ap ?_|exact jI|(clear hK K)))
  (refine aW [.cell 6 37,.tmp 7,.tmp 8] ?_;try simp only[go_sem])
 ·rw[q]at V4 ⊢;rw[if_neg jC,if_neg jC,if_neg jC,if_neg jC,if_neg jC,if_neg jC,if_pos rfl];have h1:=yT h o.name o.more;generalize ng (fl o.more) w o.name o.more=X at*;obtain⟨xw,xe⟩:=X;simp only at h1 ⊢;refine bF func9 ntmps9 ?_
  (have W:=V4;repeat' (first|refine aq fun K hK=>?_|refine ak ?_|(refine hK _ _ ?_;clear hK K)|(refine ao ?_ ?_<;>intro hc<;>try exact jz)|refine aV 3 ?_|refine aV 4 ?_|refine cp (h1) ?_|refine ap ?_|exact jI|(clear hK K)))
  (refine aW [.cell 6 37,.tmp 7,.tmp 8] ?_;try simp only[go_sem])
 ·rw[q]at V4 ⊢;rw[if_neg jC,if_neg jC,if_neg jC,if_neg jC,if_neg jC,if_neg jC,if_neg jC,if_pos rfl];have h1:=RB hp U7 hF h o.name;generalize pruneW p F w (dp o.name w.l 0)=X at*;obtain⟨xw,xe⟩:=X;simp only at h1 ⊢;refine bF func9 ntmps9 ?_
  (have W:=V4;repeat' (first|refine aq fun K hK=>?_|refine ak ?_|(refine hK _ _ ?_;clear hK K)|(refine ao ?_ ?_<;>intro hc<;>try exact jz)|refine aV 3 ?_|refine aV 4 ?_|refine cp (h1) ?_|refine ap ?_|exact jI|(clear hK K)))
  (refine aW [.cell 6 37,.tmp 7,.tmp 8] ?_;try simp only[go_sem])
 ·rw[q]at V4 ⊢;rw[if_neg jC,if_neg jC,if_neg jC,if_neg jC,if_neg jC,if_neg jC,if_neg jC,if_neg jC];have h1:=LS hp U7 hF h o.name o.more;generalize rebaseW p F w (dp o.name w.l 0) (dp o.more w.l 0)=X at*;obtain⟨xw,xn,xe⟩:=X;simp only at h1 ⊢;refine bF func9 ntmps9 ?_
  (have W:=V4;repeat' (first|refine aq fun K hK=>?_|refine ak ?_|(refine hK _ _ ?_;clear hK K)|(refine ao ?_ ?_<;>intro hc<;>try exact jz)|refine aV 3 ?_|refine aV 4 ?_|refine cp (h1) ?_|refine ap ?_|exact jI|(clear hK K)))
  (refine aW [.cell 6 37,.tmp 7,.tmp 8] ?_;try simp only[go_sem])
end
def F1{w:aU}(h:jh w):aB prog 13 [.agg (cL w),.agg (cL w)] (rB true):=by
 have hl:=h.ln;refine bF func13 ntmps13 ?_
 (repeat' (first|refine aq fun K hK=>?_|refine ak ?_|(refine hK _ _ ?_;clear hK K)|(refine ao ?_ ?_<;>intro hc<;>try exact jz)|refine aV 2 ?_|refine aV 3 ?_|refine ap ?_|exact jI|(clear hK K)))
 refine ee (S:=Nat) [(4,3),(28,20)] (fun k=>k<=w.l.length) (fun k=>[(5,rI k)]) (fun _=>⟨[],[(2,.var 37 (cL w)),(3,.var 37 (cL w))]⟩) (fun k=>w.l.length-k) 0 (Nat.zero_le _) (dZ rfl cr) ?_;rintro k hk Kr U5;by_cases I':k<w.l.length
 ·have hsm:=RH (h.b k I').ok;refine S ?_
  (have W:=I';repeat' (first|refine aq fun K hK=>?_|refine ak ?_|(with_reducible refine gR 6 ?_);refine dC 6 ([],[45],[]) [] (ba 0 12) mixed ?_|(refine hK _ _ ?_;clear hK K)|(refine ao ?_ ?_<;>intro hc<;>try exact jz)|refine cq (hsm) ?_|refine ap ?_|exact jI|(clear hK K)))
  exact U5 _ _ (dY (k+1) jB (by show w.l.length-(k+1)<w.l.length-k;omega) rfl cr)
 ·(refine S ?_;try exact jI)
  (have W:=I';repeat' (first|refine aq fun K hK=>?_|refine ak ?_|(refine hK _ _ ?_;clear hK K)|(refine ao ?_ ?_<;>intro hc<;>try exact jz)|refine ap ?_|exact jI|(clear hK K)))
  (refine aW [.tmp 4] ?_;try simp only[go_sem])
end Go.Proofs.YtijdhbokcdpklaaGreatDoor