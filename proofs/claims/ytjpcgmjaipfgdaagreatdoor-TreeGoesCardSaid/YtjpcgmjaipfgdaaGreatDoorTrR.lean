/- Lemmas. No conditions. -/
import Derived.Test.YtjpcgmjaipfgdaaGreatDoorRpQ
set_option linter.all false
set_option maxHeartbeats 4000000
set_option maxRecDepth 10000
namespace Go.Gd
open Go
def JG:List aD->Prop
 |[]=>True
 |x::l=>(∀y,l.head?=some y->x.at_<=y.at_)/\JG l
def eH(E:List aD)(t:Int):List aD:=E.filter fun x=>decide (x.at_<=t)
def lI(x:aD):List aD->List aD
 |[]=>[x]
 |y::l=>if x.at_<y.at_ then x::y::l else y::lI x l
def kP:List aD->List aD->List aD
 |a,[]=>a
 |a,x::b=>kP (lI x a) b
def lK(x:aD):List aD->Nat
 |[]=>0
 |y::l=>if x.at_<y.at_ then 0 else lK x l+1
def sW(x:aD):Bool:=decide (1<=x.name.size) && decide (x.name.size<=8) && decide (0<=x.at_) && decide (x.at_<=200) && decide (x.v.ty≠4) && lU x.v
theorem BY(x:aD):∀l,lK x l<=l.length
 |[]=>Nat.le_refl _
 |y::l=>by
  unfold lK;split
  ·exact Nat.zero_le _
  ·have:=BY x l;simp only[List.length_cons];omega
theorem CS(x:aD):∀l,lI x l=l.take (lK x l)++x::l.drop (lK x l)
 |[]=>rfl
 |y::l=>by
  unfold lI lK;split
  ·rfl
  ·rw[CS x l];rfl
def iz(x:aD)(l:List aD):(lI x l).length=l.length+1:=by have:=BY x l;rw[CS,List.length_append,List.length_cons,List.length_take,List.length_drop];omega
theorem zH:∀(b a:List aD),(kP a b).length=a.length+b.length
 |[],a=>rfl
 |x::b,a=>by show(kP (lI x a) b).length=_;rw[zH b,iz];simp only[List.length_cons];omega
theorem Cd{x y:aD}:∀{l:List aD},y∈lI x l<->y=x\/y∈l
 |[]=>by simp[lI]
 |z::l=>by
  unfold lI;split
  ·simp
  ·rw[List.mem_cons,Cd,List.mem_cons];constructor
   ·rintro(h|h|h)
    ·exact .inr (.inl h)
    ·exact .inl h
    ·exact .inr (.inr h)
   ·rintro(h|h|h)
    ·exact .inr (.inl h)
    ·exact .inl h
    ·exact .inr (.inr h)
theorem Ef{y:aD}:∀{b a:List aD},y∈kP a b<->y∈a\/y∈b
 |[],a=>by simp[kP]
 |x::b,a=>by
  show y∈kP (lI x a) b<->_;rw[Ef,Cd,List.mem_cons];constructor
  ·rintro((h|h)|h)
   ·exact .inr (.inl h)
   ·exact .inl h
   ·exact .inr (.inr h)
  ·rintro(h|h|h)
   ·exact .inl (.inr h)
   ·exact .inl (.inl h)
   ·exact .inr h
def H4{l:List aD}{t:Int}{x:aD}(h:x∈eH l t):x∈l/\x.at_<=t:=by unfold eH at h;rw[List.mem_filter]at h;exact⟨h.1,by simpa using h.2⟩
variable{A:S9}
def P4{S:S9}{y:TB}{k:Nat}(hk:k<A.length)(hS:0<S.length):dr (dr (A++S) (k+1) (A.drop k)) k [y]=A.take k++y::A.drop k++S.drop 1:=by
 unfold dr;simp only[List.length_drop,List.length_cons,List.length_nil];have h1:(A++S).take (k+1)=A.take (k+1):=by rw[List.take_append_of_le_length jB]
 have h2:(A++S).drop (k+1+(A.length-k))=S.drop 1:=by rw[show k+1+(A.length-k)=A.length+1 from jB,<-List.drop_drop,List.drop_left]
 have h3:(A.take (k+1)).length=k+1:=by rw[List.length_take];omega
 rw[h1,h2,List.append_assoc (A.take (k+1)),List.take_append_of_le_length (l₁:=A.take (k+1)) jB,List.take_take,Nat.min_eq_left jB];rw[show k+(0+1)=k+1 from jB];have h4:(A.take (k+1)++(A.drop k++S.drop 1)).drop (k+1)=A.drop k++S.drop 1:=by have:=List.drop_left (l₁:=A.take (k+1)) (l₂:=A.drop k++S.drop 1);rwa [h3]at this
 rw[h4];simp
def L7{R:S9}{y:TB}{k:Nat}(hk:k<A.length)(hR:R.length=A.length+1-k):dr (dr (A.take k++R) k [y]) (k+1) (A.drop k)=A.take k++y::A.drop k:=by
 have h3:(A.take k).length=k:=by rw[List.length_take];omega
 unfold dr;simp only[List.length_drop,List.length_cons,List.length_nil];have h4:(A.take k++R).take k=A.take k:=by have:=List.take_left (l₁:=A.take k) (l₂:=R);rwa [h3]at this
 have h5:(A.take k++R).drop (k+(0+1))=R.drop 1:=by rw[show k+(0+1)=k+1 from jB,<-List.drop_drop];have:=List.drop_left (l₁:=A.take k) (l₂:=R);rw[h3]at this;rw[this]
 rw[h4,h5];have h6:(A.take k++[y]++R.drop 1).take (k+1)=A.take k++[y]:=by have:=List.take_left (l₁:=A.take k++[y]) (l₂:=R.drop 1);rwa [List.length_append,h3,List.length_cons,List.length_nil]at this
 have h7:(A.take k++[y]++R.drop 1).drop (k+1+(A.length-k))=[]:=by apply List.drop_of_length_le;rw[List.length_append,List.length_append,h3,List.length_drop];simp only[List.length_cons,List.length_nil];omega
 rw[h6,h7];simp
def sf:TJ:=[.int .i64 0,.string ⟨#[]⟩,.int .i64 0,.int .i64 0,.string ⟨#[]⟩]
abbrev BJ:TB:=List.map AV.raw sf
theorem Eo(q:TK):∀l:List aD,aW q (l.map bA).flatten=true
 |[]=>rfl
 |x::l=>by rw[List.map_cons,List.flatten_cons,uD,Eo q l,FW];rfl
theorem Hx{x:aD}:∀{L:List aD} {k:Nat},(∀j,j<k->¬x.at_<(nth L j).at_)->k<L.length->x.at_<(nth L k).at_->lK x L=k
 |[],k,_,h,_=>by simp at h
 |y::L,0,_,_,h=>by exact if_pos h
 |y::L,k+1,h1,h2,h3=>by show(if x.at_<y.at_ then 0 else lK x L+1)=_;rw[if_neg (show¬x.at_<y.at_ from h1 0 jB),Hx (L:=L) (k:=k) (fun j hj=>h1 (j+1) jB) (by simpa using h2) h3]
theorem E8{x:aD}:∀{L:List aD},(∀j,j<L.length->¬x.at_<(nth L j).at_)->lK x L=L.length
 |[],_=>rfl
 |y::L,h=>by show(if x.at_<y.at_ then 0 else lK x L+1)=_;rw[if_neg (show¬x.at_<y.at_ from h 0 jE),E8 (L:=L) (fun j hj=>h (j+1) jF)];rfl
def sK(x:aD)(L:List aD):Int:=if lK x L<L.length then(lK x L:Int)else -1
def MJ(l:List aD):∀(a:List aD) (x:aD),kP l (a++[x])=lI x (kP l a):=fun a=>by
 induction a generalizing l with
 |nil=>intro x;rfl
 |cons y a ih=>intro x;exact ih (lI y l) x
def iS(t:Int):List aD->Nat
 |[]=>0
 |y::l=>if t<y.at_ then 0 else iS t l+1
theorem Ge{t:Int}:∀{L:List aD} {k:Nat},(∀j,j<k->¬t<(nth L j).at_)->k<L.length->t<(nth L k).at_->iS t L=k
 |[],k,_,h,_=>by simp at h
 |y::L,0,_,_,h=>if_pos h
 |y::L,k+1,h1,h2,h3=>by show(if t<y.at_ then 0 else iS t L+1)=_;rw[if_neg (show¬t<y.at_ from h1 0 jB),Ge (L:=L) (k:=k) (fun j hj=>h1 (j+1) jB) (by simpa using h2) h3]
theorem Gr{t:Int}:∀{L:List aD},(∀j,j<L.length->¬t<(nth L j).at_)->iS t L=L.length
 |[],_=>rfl
 |y::L,h=>by show(if t<y.at_ then 0 else iS t L+1)=_;rw[if_neg (show¬t<y.at_ from h 0 jE),Gr (L:=L) (fun j hj=>h (j+1) jF)];rfl
def rO(t:Int)(L:List aD):Int:=if iS t L<L.length then(iS t L:Int)else -1
theorem Ed(t:Int):∀L,iS t L<=L.length
 |[]=>Nat.le_refl _
 |y::l=>by
  unfold iS;split
  ·exact Nat.zero_le _
  ·have:=Ed t l;simp only[List.length_cons];omega
theorem Ch(t:Int):∀L:List aD,eH (L.take (iS t L)) t=L.take (iS t L)
 |[]=>rfl
 |y::l=>by
  unfold iS;split
  ·rfl
  ·rename_i c;have ih:=Ch t l;unfold eH at ih ⊢;rw[List.take_succ_cons,List.filter_cons_of_pos (by simpa using Int.not_lt.1 c),ih]
theorem FZ{t:Int}:∀{L:List aD},iS t L<L.length->t<(nth L (iS t L)).at_
 |[],h=>by simp[iS]at h
 |y::l,h=>by
  unfold iS at h ⊢;split
  ·rename_i c;exact c
  ·rename_i c;rw[if_neg c]at h;simp only[List.length_cons]at h;exact FZ (L:=l) jB
def Db(L:List aD)(x:aD)(t:Int):eH (L++[x]) t=if x.at_<=t then eH L t++[x]else eH L t:=by
 unfold eH;rw[List.filter_append];split
 ·rename_i h;rw[List.filter_cons_of_pos (by simpa using h)];rfl
 ·rename_i h;rw[List.filter_cons_of_neg (by simpa using h)];simp
def B9(L:List aD)(t:Int):(eH L t).length<=L.length:=List.length_filter_le _ _
def ik(name:TF)(ty:Int):List bD->Int->Int
 |[],_=>-1
 |v::l,i=>if v.name=name/\v.ty=ty then i else ik name ty l (i+1)
theorem Fh(name:TF)(ty:Int):∀(l:List bD) (i:Int),0<=i->(ik name ty l i=-1\/(i<=ik name ty l i/\ik name ty l i<i+l.length))
 |[],i,_=>.inl rfl
 |v::l,i,h=>by
  unfold ik;split
  ·right;simp only[List.length_cons];omega
  ·rcases Fh name ty l (i+1) jB with e|e
   ·exact .inl e
   ·right;simp only[List.length_cons];omega
theorem y6(name:TF)(ty:Int):∀(l:List bD) (i:Nat),0<=ik name ty l (i:Int)->∃k:Nat,ik name ty l (i:Int)=(i:Int)+k/\k<l.length/\((nth l k).name=name/\(nth l k).ty=ty)/\∀j,j<k->¬((nth l j).name=name/\(nth l j).ty=ty)
 |[],i,h=>by unfold ik at h;omega
 |v::l,i,h=>by
  unfold ik at h ⊢;by_cases c:v.name=name/\v.ty=ty
  ·rw[if_pos c];exact⟨0,jB,jE,c,fun j hj=>jB⟩
  ·rw[if_neg c]at h ⊢;obtain⟨k,e,hk,g,f⟩:=y6 name ty l (i+1) (by push_cast;exact h);refine⟨k+1,by push_cast at e ⊢;omega,by simp;omega,g,fun j hj=>?_⟩;cases j with
   |zero=>exact c
   |succ j=>exact f j jB
theorem HA(name:TF)(ty:Int):∀(l:List bD) (i:Nat),ik name ty l (i:Int)<0->∀j,j<l.length->¬((nth l j).name=name/\(nth l j).ty=ty)
 |[],i,h,j,hj=>by simp at hj
 |v::l,i,h,j,hj=>by
  unfold ik at h;by_cases c:v.name=name/\v.ty=ty
  ·rw[if_pos c]at h;omega
  ·rw[if_neg c]at h;cases j with
   |zero=>exact c
   |succ j=>exact HA name ty l (i+1) (by push_cast;exact h) j (by simpa using hj)
section
variable {σ:Type}(tm:σ->Int)(st:σ->σ)(se:σ->TF->aj->Option σ)(E:List aD)
def eT:Nat->σ->Nat->Bool->σ×Nat×Bool
 |0,s,k,b=>(s,k,b)
 |n+1,s,k,b=>
  if b=false/\k<E.length/\(nth E k).at_=tm s then
   match se s (nth E k).name (nth E k).v with
   |some s'=>eT n s' (k+1) false
   |none=>(s,k,true)
  else(s,k,b)
def iq(t:Int):Nat->σ->Nat->Bool->σ×Nat×Bool
 |0,s,k,b=>(s,k,b)
 |n+1,s,k,b=>
  if tm (eT tm se E (E.length+1) s k b).1=t then eT tm se E (E.length+1) s k b
  else if tm (st (eT tm se E (E.length+1) s k b).1)=tm (eT tm se E (E.length+1) s k b).1 then(st (eT tm se E (E.length+1) s k b).1,(eT tm se E (E.length+1) s k b).2)
  else iq t n (st (eT tm se E (E.length+1) s k b).1) (eT tm se E (E.length+1) s k b).2.1 (eT tm se E (E.length+1) s k b).2.2
def nh(t:Int)(r:σ×Nat×Bool):Int:=if r.2.1<E.length/\(nth E r.2.1).at_<=t then r.2.1+1 else 0
end
def dV(t:Int):Int:=min (max t 0) 200
section
variable {σ:Type}{tm:σ->Int}{st:σ->σ}{se:σ->TF->aj->Option σ}{E:List aD}
structure mU(tm:σ->Int)(st:σ->σ)(se:σ->ByteArray->aj->Option σ)(E:List aD)(I:σ->Prop):Prop where
 se:∀s k s',I s->k<E.length->se s (nth E k).name (nth E k).v=some s'->I s'/\tm s'=tm s
 st:∀s,I s->tm s<200->I (st s)/\(tm (st s)=tm s\/tm (st s)=tm s+1)
 tm:∀s,I s->0<=tm s
variable {I:σ->Prop}
theorem vo(h:mU tm st se E I):∀(n:Nat) (s:σ) (k:Nat) (b:Bool),I s->I (eT tm se E n s k b).1/\tm (eT tm se E n s k b).1=tm s/\k<=(eT tm se E n s k b).2.1/\(k<=E.length->(eT tm se E n s k b).2.1<=E.length)
 |0,s,k,b,hs=>⟨hs,rfl,Nat.le_refl _,fun h=>h⟩
 |n+1,s,k,b,hs=>by
  unfold eT;split
  ·rename_i hc;split
   ·rename_i s' WG;obtain⟨a1,a2⟩:=h.se s k s' hs hc.2.1 WG;obtain⟨b1,b2,b3,b4⟩:=vo h n s' (k+1) false a1;exact⟨b1,b2.trans a2,jB,fun _=>b4 jB⟩
   ·exact⟨hs,rfl,Nat.le_refl _,fun h=>h⟩
  ·exact⟨hs,rfl,Nat.le_refl _,fun h=>h⟩
theorem wI(h:mU tm st se E I){t:Int}(ht:t<=200):∀(n:Nat) (s:σ) (k:Nat) (b:Bool),I s->tm s<=t->k<=E.length->I (iq tm st se E t n s k b).1/\(iq tm st se E t n s k b).2.1<=E.length/\tm (iq tm st se E t n s k b).1<=t/\k<=(iq tm st se E t n s k b).2.1
 |0,s,k,b,hs,h1,hk=>⟨hs,hk,h1,Nat.le_refl _⟩
 |n+1,s,k,b,hs,h1,hk=>by
  obtain⟨a1,a2,a3,a4⟩:=vo h (E.length+1) s k b hs;unfold iq;split
  ·exact⟨a1,a4 hk,jB,a3⟩
  rename_i UD;have O':tm (eT tm se E (E.length+1) s k b).1<200:=jB;obtain⟨c1,c2⟩:=h.st _ a1 O';split
  ·exact⟨c1,a4 hk,by show tm (st (eT tm se E (E.length+1) s k b).1)<=t;omega,a3⟩
  ·rename_i hne2;obtain⟨d1,d2,d3,d4⟩:=wI h ht n _ (eT tm se E (E.length+1) s k b).2.1 (eT tm se E (E.length+1) s k b).2.2 c1 jB (a4 hk);exact⟨d1,d2,d3,jB⟩
end
end Go.Gd
namespace Go.Proofs.YtjpcgmjaipfgdaaGreatDoor
open Go Go.Gd Tryz
def H8(l:List aD):Go.Gd.Good 5 (l.map bA):=fun c hc=>by obtain⟨y,_,rfl⟩:=List.mem_map.1 hc;exact⟨rfl,rfl⟩
def L3(l:List aD)(x:aD)(k:Nat)(hk:k<=l.length)(hl:l.length<=1000)(n:Nat)(hn:n=l.length):ab prog 131 [.rs 1 n 5 n,rI k,.sl true 5 [bA x] []] [(1,.aF 56 5 (l.map bA))] (fun r l'=>r=.rs 1 (n+1) 5 (n+1)/\l'=[(1,.aF 56 5 ((l.take k++x::l.drop k).map bA))]):=by
 have U':(l.map bA).length=n:=by rw[List.length_map,hn]
 by_cases Zl:k=n
 ·subst Zl;have e:l.take k++x::l.drop k=l++[x]:=by rw[hn,List.take_length,List.drop_length]
  rw[e,List.map_append];refine aL func131 ntmps131 ?_;refine S ?_
  (have W:=U';repeat' (first|refine aq fun K hK=>?_|refine au ?_|(refine hK _ _ ?_;clear hK K)|(refine ap ?_ ?_<;>intro hc<;>try exact jz)|refine ar ?_|exact jI|(clear hK K)))
  (refine bW [.tmp 6] ?_ ?_<;>(try simp only[go_sem]))
 ·have Wa:(l.take k++x::l.drop k).map bA=(l.map bA).take k++bA x::(l.map bA).drop k:=by rw[List.map_append,List.map_cons,List.map_take,List.map_drop]
  have Xj:(l.drop k).map bA=(l.map bA).drop k:=List.map_drop;have hg:=H8 (l.drop k);have T4:Go.Gd.Good 5 [bA x]:=H8 [x];rw[Xj]at hg;have hdl:((l.map bA).drop k).length=n-k:=by rw[List.length_drop,U']
  have hkI:¬(k:Int)=(n:Int):=jB;have Yp:∀j:Nat,1<=j->Nat.min 1 j=[bA x].length:=fun j h=>Nat.min_eq_left h
  have Yq:∀j i:Nat,(j=n-k/\n-k<=i)\/(i=n-k/\n-k<=j)->Nat.min j i=((l.map bA).drop k).length:=fun j i h=>by
   rw[hdl];rcases h with⟨h1,h2⟩|⟨h1,h2⟩
   ·rw[h1];exact Nat.min_eq_left h2
   ·rw[h1];exact Nat.min_eq_right h2
  refine ab.wz (i:=1) (css:=l.map bA) (X:=(l.take k++x::l.drop k).map bA) (l:=[(1,.aF 56 5 (l.map bA))]) 9 jB rfl U'.symm (fun j r h1 h2=>?_) (by rw[List.length_map,List.length_append,List.length_cons,List.length_take,List.length_drop];omega) (Eo _ _) (fun y hy=>by obtain⟨z,_,rfl⟩:=List.mem_map.1 hy;rfl) rfl ?_ fun c hc=>?_
  ·simp only[aA]at h1;split at h1
   ·rename_i e;exact(h2 e).elim
   ·cases h1
  ·have V4:(n:Int)+1>(n:Int):=jB;show ab _ _ _ [(1,.aF 56 5 (l.map bA))] (fun r l'=>r=.rs 9 (n+1) 5 (n+1)/\l'=[(1,.aF 56 5 (l.map bA)),(9,.aF 56 5 ((l.take k++x::l.drop k).map bA))]);rw[Wa];have Wo:=L7 (A:=l.map bA) (R:=List.replicate (n+1-k) BJ) (y:=bA x) (k:=k) jB (by rw[List.length_replicate,U']);have Vq:((l.map bA).drop k).take (n-k)=(l.map bA).drop k:=List.take_of_length_le jB;have h9:n+1=((l.map bA).take k++List.replicate (n+1-k) BJ).length:=by rw[List.length_append,List.length_take,List.length_replicate,U'];omega
   have h9':n+1=(dr ((l.map bA).take k++List.replicate (n+1-k) BJ) k [bA x]).length:=by rw[ur _ jB,<-h9];simp only[List.length_cons,List.length_nil];omega
   generalize l.map bA=A at*;refine aL func131 ntmps131 ?_;refine S ?_
   (have W:=jA U' (jA hkI (V4));repeat' (first|refine aq fun K hK=>?_|refine au ?_|(with_reducible refine gR 11 ?_);refine dE 11 (bc 0 9) mixed ?_|(refine hK _ _ ?_;clear hK K)|(refine ap ?_ ?_<;>intro hc<;>try exact jz)|(refine KB (zs:=sf) (j:=9) (k:=n+1-k) (n:=n+1) jG ⟨.i64,jG⟩ jG jG rfl jC rfl U'.symm jB jB (by simp only[go_sem,room];omega) jB rfl jB ?_;refine S ?_)|(refine yj (k:=1) (ys:=[bA x]) (zs:=sf) rfl h9 jG jG jG rfl jC jB jB (Gj (c:=True) rfl trivial T4) T4 (Yp _ jB) ?_;refine S ?_)|(refine yj (k:=n-k) (ys:=A.drop k) (zs:=sf) rfl h9' jG jG jG rfl jC jB jB (fun w vx h1 h2=>by have:=IV (n:=n-k) (css:=A) rfl U'.symm jB jl w vx h1 h2;rwa [Vq]at this) hg (Yq _ _ jB) ?_;refine S ?_)|refine ar ?_|exact jI|(clear hK K)))
   rw[Wo]
   (refine bW [.tmp 6] ?_ ?_<;>(try simp only[go_sem]))
  ·have V4:¬(n:Int)+1>(c:Int):=jB;show ab _ _ _ [(1,.aF 56 5 (l.map bA++eW 5 (c-n)))] (fun r l'=>r=.rc 1 c 5 (n+1)/\l'=[(1,.aF 56 5 ((l.take k++x::l.drop k).map bA++eW 5 (c-(n+1))))]);rw[Wa];have hSl:(eW 5 (c-n)).length=c-n:=uB;have hS1:(eW 5 (c-n)).drop 1=eW 5 (c-(n+1)):=by unfold eW;rw[List.drop_replicate];congr 1
   have Wo:=P4 (A:=l.map bA) (S:=eW 5 (c-n)) (y:=bA x) (k:=k) jB jB;rw[hS1]at Wo;have h8:c=(l.map bA++eW 5 (c-n)).length:=by rw[List.length_append,U',hSl];omega
   have h9:c=(dr (l.map bA++eW 5 (c-n)) (k+1) ((l.map bA).drop k)).length:=by rw[ur _ jB,<-h8,hdl];omega
   have Vq:((l.map bA++eW 5 (c-n)).drop k).take (n-k)=(l.map bA).drop k:=by rw[List.drop_append_of_le_length jB,List.take_append_of_le_length jB,List.take_of_length_le jB]
   have Uw:n+1<=c:=jB;generalize eW 5 (c-(n+1))=Sq at*;generalize eW 5 (c-n)=Sp at*;generalize l.map bA=A at*;refine aL func131 ntmps131 ?_;refine S ?_
   (have W:=jA U' (jA hkI (V4));repeat' (first|refine aq fun K hK=>?_|refine au ?_|(with_reducible refine gR 15 ?_);refine dE 15 (bc 0 9) mixed ?_|(refine hK _ _ ?_;clear hK K)|(refine ap ?_ ?_<;>intro hc<;>try exact jz)|(refine Kh ?_;refine SN (t:=50) (fn:=Tryz.f179) (tR:=4) func179 jG jG jG jG jG jG rfl h8 jB jB (Nat.zero_lt_succ 0) ?_;refine S ?_)|(refine yj (k:=n+1-k) (ys:=A.drop k) (zs:=sf) rfl h8 jG jG jG rfl jC jB jB (fun w vx h1 h2=>by have:=IV (n:=n-k) (css:=A++Sp) rfl h8 jB jB w vx h1 h2;rwa [Vq]at this) hg (Yq _ _ jB) ?_;refine S ?_)|(refine yj (k:=1) (ys:=[bA x]) (zs:=sf) rfl h9 jG jG jG rfl jC jB jB (Gj (c:=True) rfl trivial T4) T4 (Yp _ jB) ?_;refine S ?_)|refine ar ?_|exact jI|(clear hK K)))
   rw[Wo]
   (refine bW [.tmp 6] ?_ ?_<;>(try simp only[go_sem]))
def Cs(l:List aD)(hl:l.length<=1000)(i:Nat):ab prog 56 [aM bA 5 l] [] (fun r l'=>r=.rs i l.length 5 l.length/\l'=[(i,.aF 56 5 (l.map bA))]):=by
 refine aL func56 ntmps56 ?_
 (repeat' (first|refine aq fun K hK=>?_|refine au ?_|(refine hK _ _ ?_;clear hK K)|(refine ap ?_ ?_<;>intro hc<;>try exact jz)|(with_reducible refine fun(b:Bool) hb=>?_)|refine ve i ?_|refine ar ?_|exact jI|(clear hK K)))
 ·have T5:l=[]:=by simpa using hb hc
  subst T5;exact wc i 56 5 jC [.tmp 2] rfl rfl trivial
 ·(refine bW [.tmp 2] ?_ ?_<;>(try simp only[go_sem]))
def LB(y x:aD):ab prog 130 [.agg (bA y),.pt 6 0 0 0] [(6,.var 56 (bA x))] (fun r l=>r=rB (decide (x.at_<y.at_))/\l=[(6,.var 56 (bA x))]):=by
 refine aL func130 ntmps130 ?_;refine S ?_
 (repeat' (first|refine aq fun K hK=>?_|refine au ?_|(refine hK _ _ ?_;clear hK K)|(refine ap ?_ ?_<;>intro hc<;>try exact jz)|refine bx 9 ?_|refine ar ?_|exact jI|(clear hK K)))
 (refine aZ [.tmp 3] ?_;try simp only[go_sem])
def OB(x:aD)(L:List aD)(hL:L.length<=1000)(n:Nat)(hn:n=L.length):ab prog 129 [.rs 1 n 5 n,.dP 130 [.pt 6 0 0 0]] [(1,.aF 56 5 (L.map bA)),(6,.var 56 (bA x))] (fun r l=>r=rI (sK x L)/\l=[(1,.aF 56 5 (L.map bA)),(6,.var 56 (bA x))]):=by
 suffices key:∀z,sK x L=z->ab prog 129 [.rs 1 n 5 n,.dP 130 [.pt 6 0 0 0]] [(1,.aF 56 5 (L.map bA)),(6,.var 56 (bA x))] (fun r l=>r=rI z/\l=[(1,.aF 56 5 (L.map bA)),(6,.var 56 (bA x))]) from key _ rfl
 intro z hz;have U':(L.map bA).length=n:=by rw[List.length_map,hn]
 refine aL func129 ntmps129 ?_;refine S ?_
 (repeat' (first|refine aq fun K hK=>?_|refine au ?_|(refine hK _ _ ?_;clear hK K)|(refine ap ?_ ?_<;>intro hc<;>try exact jz)|refine ar ?_|exact jI|(clear hK K)))
 have Tk:=hK;clear hK;refine eu (S:=Nat) [(4,2),(8,11)] (fun k=>k<=n/\∀j,j<k->¬x.at_<(nth L j).at_) (fun k=>[(8,rI k)]) (fun _=>⟨[1,6],[(1,.aF 56 5 (L.map bA)),(6,.var 56 (bA x))]⟩) (fun k=>n-k) 0 ⟨Nat.zero_le _,fun j h=>jB⟩ (eD rfl cH) ?_;rintro k ⟨hk,Te⟩ Kr Tg;by_cases O':k<n
 ·have Tn:=LB (nth L k) x;have UU:k<L.length:=jB;by_cases c:x.at_<(nth L k).at_
  ·rw[decide_eq_true c]at Tn;have hp:=Hx Te UU c;have:z=(k:Int):=by rw[<-hz];unfold sK;rw[hp,if_pos UU]
   subst this;refine S ?_
   (have W:=jA O' (jA U' (UU));repeat' (first|refine aq fun K hK=>?_|refine au ?_|(refine hK _ _ ?_;clear hK K)|(refine ap ?_ ?_<;>intro hc<;>try exact jz)|(refine cl Tn ?_)|refine ar ?_|exact jI|(clear hK K)))
   (refine aZ [.tmp 4] ?_;try simp only[go_sem])
  ·rw[decide_eq_false c]at Tn;refine S ?_
   (have W:=jA O' (jA U' (UU));repeat' (first|refine aq fun K hK=>?_|refine au ?_|(refine hK _ _ ?_;clear hK K)|(refine ap ?_ ?_<;>intro hc<;>try exact jz)|(refine cl Tn ?_)|refine ar ?_|exact jI|(clear hK K)))
   exact Tg _ _ (eJ (k+1) ⟨jB,fun j hj=>by
    by_cases e:j<k
    ·exact Te j e
    ·rw[show j=k from jB];exact c⟩ (by show n-(k+1)<n-k;omega) rfl cH)
 ·have hp:=E8 (x:=x) (L:=L) fun j hj=>Te j jB
  have:z=-1:=by rw[<-hz];unfold sK;rw[hp,if_neg (Nat.lt_irrefl _)]
  subst this;refine S ?_
  (have W:=jA O' U';repeat' (first|refine aq fun K hK=>?_|refine au ?_|(refine hK _ _ ?_;clear hK K)|(refine ap ?_ ?_<;>intro hc<;>try exact jz)|refine Tk _ _ ?_|refine ar ?_|exact jI|(clear hK K)))
  (refine aZ [.tmp 4] ?_;try simp only[go_sem])
def Fp(l all:List aD)(h1:l.length<=500)(h2:all.length<=500):aB prog 76 [aM bA 5 l,aM bA 5 all] (aM bA 5 (kP l all)):=by
 have Tc:=Cs l jB 1;refine bM func76 ntmps76 ?_
 (repeat' (first|refine aq fun K hK=>?_|refine au ?_|(refine hK _ _ ?_;clear hK K)|(refine ap ?_ ?_<;>intro hc<;>try exact jz)|refine cm (Tc) ?_|refine ar ?_|exact jI|(clear hK K)))
 have Tk:=hK;clear hK;refine eu (S:=Nat) [(0,1),(6,2),(12,17)] (fun k=>k<=all.length) (fun k=>[(0,.rs 1 (l.length+k) 5 (l.length+k)),(12,rI k)]) (fun k=>⟨[],[(1,.aF 56 5 ((kP l (all.take k)).map bA))]⟩) (fun k=>all.length-k) 0 (Nat.zero_le _) (eD rfl cH) ?_;rintro k hk Kr Tg;have I':=zH (all.take k) l;rw[List.length_take,Nat.min_eq_left hk]at I';by_cases O':k<all.length
 ·have hsn:kP l (all.take (k+1))=lI (nth all k) (kP l (all.take k)):=by rw[ub O',MJ]
  have hex:(kP l (all.take (k+1))).map bA=((kP l (all.take k)).take (lK (nth all k) (kP l (all.take k)))++nth all k::(kP l (all.take k)).drop (lK (nth all k) (kP l (all.take k)))).map bA:=by rw[hsn,CS]
  generalize hx:nth all k=x at*;generalize hM:kP l (all.take k)=M at*;have VO:=OB x M jB (l.length+k) I'.symm;have V8:=BY x M;have hpi:=L3 M x (lK x M) V8 jB (l.length+k) I'.symm;have Xt:((l.length+k:Nat):Int)=(l.length:Int)+k:=by push_cast;rfl
  by_cases hq:lK x M<l.length+k
  ·have hi:sK x M=(lK x M:Int):=by unfold sK;rw[jP]
   rw[hi]at VO;generalize lK x M=q at*;have hq0:¬(q:Int)<0:=jB;refine S ?_
   (have W:=jA O' (jA hq0 (hx));repeat' (first|refine aq fun K hK=>?_|refine au ?_|(refine hK _ _ ?_;clear hK K)|(refine ap ?_ ?_<;>intro hc<;>try exact jz)|refine al 6 ?_|refine cm (VO) ?_|refine cm (hpi) ?_|refine ar ?_|exact jI|(clear hK K)))
   refine Tg _ _ (pg [6] (k+1) jB (by show all.length-(k+1)<all.length-k;omega) rfl Sd ?_ jh);simp only[hex,List.map_append,List.map_cons];rfl
  ·have hi:sK x M=-1:=by unfold sK;rw[jN]
   rw[hi]at VO;have VN:lK x M=l.length+k:=jB;rw[VN]at hpi hex;refine S ?_
   (have W:=jA O' hx;repeat' (first|refine aq fun K hK=>?_|refine au ?_|(refine hK _ _ ?_;clear hK K)|(refine ap ?_ ?_<;>intro hc<;>try exact jz)|refine al 6 ?_|refine cm (VO) ?_|refine cm (hpi) ?_|refine ar ?_|exact jI|(clear hK K)))
   refine Tg _ _ (pg [6] (k+1) jB (by show all.length-(k+1)<all.length-k;omega) rfl Sd ?_ jh);simp only[hex,List.map_append,List.map_cons];rfl
 ·have XJ:k=all.length:=jB;subst XJ;rw[List.take_length]at I' ⊢;refine S ?_
  (have W:=O';repeat' (first|refine aq fun K hK=>?_|refine au ?_|(refine hK _ _ ?_;clear hK K)|(refine ap ?_ ?_<;>intro hc<;>try exact jz)|refine Tk _ _ ?_|refine ar ?_|exact jI|(clear hK K)))
  refine fC [.tmp 4] ?_;exact cW.row (kP l all) rfl rfl (by simp[I'])
def MA(a b:List aD)(h1:a.length<=500)(h2:b.length<=500):aB prog 74 [aM bA 5 a,aM bA 5 b] (aM bA 5 (kP a b)):=by
 have h:=Fp a b h1 h2;refine bM func74 ntmps74 ?_
 (repeat' (first|refine aq fun K hK=>?_|refine au ?_|(refine hK _ _ ?_;clear hK K)|(refine ap ?_ ?_<;>intro hc<;>try exact jz)|refine cp (h) ?_|refine ar ?_|exact jI|(clear hK K)))
 (refine aZ [.tmp 4] ?_;try simp only[go_sem])
def HI(x:aD):aB prog 68 [.agg (bA x)] (rB (sW x)):=by
 have h:=uI x.v;suffices key:∀b,sW x=b->aB prog 68 [.agg (bA x)] (rB b) from key _ rfl
 intro b hb;unfold sW at hb;generalize lU x.v=m at*;have hq:(¬1<=(x.name.size:Int)/\True/\True/\True/\True)\/(1<=(x.name.size:Int)/\¬(x.name.size:Int)<=8/\True/\True/\True)\/(1<=(x.name.size:Int)/\(x.name.size:Int)<=8/\¬0<=x.at_/\True/\True)\/(1<=(x.name.size:Int)/\(x.name.size:Int)<=8/\0<=x.at_/\¬x.at_<=200/\True)\/(1<=(x.name.size:Int)/\(x.name.size:Int)<=8/\0<=x.at_/\x.at_<=200/\x.v.ty=4)\/(1<=(x.name.size:Int)/\(x.name.size:Int)<=8/\0<=x.at_/\x.at_<=200/\¬x.v.ty=4):=by
  by_cases c1:1<=(x.name.size:Int)
  rotate_left
  ·exact .inl ⟨c1,trivial,trivial,trivial,trivial⟩
  by_cases c2:(x.name.size:Int)<=8
  rotate_left
  ·exact .inr (.inl ⟨c1,c2,trivial,trivial,trivial⟩)
  by_cases c3:0<=x.at_
  rotate_left
  ·exact .inr (.inr (.inl ⟨c1,c2,c3,trivial,trivial⟩))
  by_cases c4:x.at_<=200
  rotate_left
  ·exact .inr (.inr (.inr (.inl ⟨c1,c2,c3,c4,trivial⟩)))
  by_cases c5:x.v.ty=4
  ·exact .inr (.inr (.inr (.inr (.inl ⟨c1,c2,c3,c4,c5⟩))))
  ·exact .inr (.inr (.inr (.inr (.inr ⟨c1,c2,c3,c4,c5⟩))))
 have n1:(1<=x.name.size)<->1<=(x.name.size:Int):=jB;have n2:(x.name.size<=8)<->(x.name.size:Int)<=8:=jB;rcases hq with⟨c1,c2,c3,c4,c5⟩|⟨c1,c2,c3,c4,c5⟩|⟨c1,c2,c3,c4,c5⟩|⟨c1,c2,c3,c4,c5⟩|⟨c1,c2,c3,c4,c5⟩|⟨c1,c2,c3,c4,c5⟩
 all_goals
  refine bM func68 ntmps68 ?_
  (have W:=jA c1 (jA c2 (jA c3 (jA c4 (c5))));repeat' (first|refine aq fun K hK=>?_|refine au ?_|(refine hK _ _ ?_;clear hK K)|(refine ap ?_ ?_<;>intro hc<;>try exact jz)|refine bx 3 ?_|(first|refine cg (h) ?_|refine tF (h) ?_)|refine cq (h) ?_|refine⟨rB true,?_⟩|refine ar ?_|exact jI|(clear hK K)))
  (refine aZ [.tmp 2] ?_;try simp only[go_sem])
  refine Gk ?_;rw[<-hb];simp[n1,n2,c1,c2,c3,c4,c5]
def Cy:aD:=⟨0,⟨#[]⟩,⟨0,0,⟨#[]⟩⟩⟩
def DL(y:aD)(t:Int):ab prog 126 [.agg (bA y),.pt 6 0 0 0] [(6,.var 3 [rI t])] (fun r l=>r=rB (decide (t<y.at_))/\l=[(6,.var 3 [rI t])]):=by
 refine aL func126 ntmps126 ?_;refine S ?_
 (repeat' (first|refine aq fun K hK=>?_|refine au ?_|(refine hK _ _ ?_;clear hK K)|(refine ap ?_ ?_<;>intro hc<;>try exact jz)|refine bx 9 ?_|refine ar ?_|exact jI|(clear hK K)))
 (refine aZ [.tmp 3] ?_;try simp only[go_sem])
def Kv(t:Int)(L:List aD)(hL:L.length<=1000)(n:Nat)(hn:n=L.length):ab prog 129 [.rs 1 n 5 n,.dP 126 [.pt 6 0 0 0]] [(1,.aF 56 5 (L.map bA)),(6,.var 3 [rI t])] (fun r l=>r=rI (rO t L)/\l=[(1,.aF 56 5 (L.map bA)),(6,.var 3 [rI t])]):=by
 suffices key:∀z,rO t L=z->ab prog 129 [.rs 1 n 5 n,.dP 126 [.pt 6 0 0 0]] [(1,.aF 56 5 (L.map bA)),(6,.var 3 [rI t])] (fun r l=>r=rI z/\l=[(1,.aF 56 5 (L.map bA)),(6,.var 3 [rI t])]) from key _ rfl
 intro z hz;have U':(L.map bA).length=n:=by rw[List.length_map,hn]
 refine aL func129 ntmps129 ?_;refine S ?_
 (repeat' (first|refine aq fun K hK=>?_|refine au ?_|(refine hK _ _ ?_;clear hK K)|(refine ap ?_ ?_<;>intro hc<;>try exact jz)|refine ar ?_|exact jI|(clear hK K)))
 have Tk:=hK;clear hK;refine eu (S:=Nat) [(4,2),(8,11)] (fun k=>k<=n/\∀j,j<k->¬t<(nth L j).at_) (fun k=>[(8,rI k)]) (fun _=>⟨[1,6],[(1,.aF 56 5 (L.map bA)),(6,.var 3 [rI t])]⟩) (fun k=>n-k) 0 ⟨Nat.zero_le _,fun j h=>jB⟩ (eD rfl cH) ?_;rintro k ⟨hk,Te⟩ Kr Tg;by_cases O':k<n
 ·have Tn:=DL (nth L k) t;have UU:k<L.length:=jB;by_cases c:t<(nth L k).at_
  ·rw[decide_eq_true c]at Tn;have hp:=Ge Te UU c;have:z=(k:Int):=by rw[<-hz];unfold rO;rw[hp,if_pos UU]
   subst this;refine S ?_
   (have W:=jA O' (jA U' (UU));repeat' (first|refine aq fun K hK=>?_|refine au ?_|(refine hK _ _ ?_;clear hK K)|(refine ap ?_ ?_<;>intro hc<;>try exact jz)|(refine cl Tn ?_)|refine ar ?_|exact jI|(clear hK K)))
   (refine aZ [.tmp 4] ?_;try simp only[go_sem])
  ·rw[decide_eq_false c]at Tn;refine S ?_
   (have W:=jA O' (jA U' (UU));repeat' (first|refine aq fun K hK=>?_|refine au ?_|(refine hK _ _ ?_;clear hK K)|(refine ap ?_ ?_<;>intro hc<;>try exact jz)|(refine cl Tn ?_)|refine ar ?_|exact jI|(clear hK K)))
   exact Tg _ _ (eJ (k+1) ⟨jB,fun j hj=>by
    by_cases e:j<k
    ·exact Te j e
    ·rw[show j=k from jB];exact c⟩ (by show n-(k+1)<n-k;omega) rfl cH)
 ·have hp:=Gr (t:=t) (L:=L) fun j hj=>Te j jB
  have:z=-1:=by rw[<-hz];unfold rO;rw[hp,if_neg (Nat.lt_irrefl _)]
  subst this;refine S ?_
  (have W:=jA O' U';repeat' (first|refine aq fun K hK=>?_|refine au ?_|(refine hK _ _ ?_;clear hK K)|(refine ap ?_ ?_<;>intro hc<;>try exact jz)|refine Tk _ _ ?_|refine ar ?_|exact jI|(clear hK K)))
  (refine aZ [.tmp 4] ?_;try simp only[go_sem])
def SE(t:Int)(L:List aD)(hL:L.length<=1000)(n:Nat)(hn:n=L.length):ab prog 125 [.rs 1 n 5 n,.dP 126 [.pt 6 0 0 0]] [(1,.aF 56 5 (L.map bA)),(6,.var 3 [rI t])] (fun r l=>r=.rs 1 n 5 (eH L t).length/\l=[(1,.aF 56 5 ((eH L t++List.replicate (n-(eH L t).length) Cy).map bA)),(6,.var 3 [rI t])]):=by
 have VO:=Kv t L hL n hn;have YU:=Ed t L;have U':(L.map bA).length=n:=by rw[List.length_map,hn]
 by_cases hq:iS t L<L.length
 rotate_left
 ·have hi:rO t L=-1:=by unfold rO;rw[if_neg hq]
  have he:eH L t=L:=by have:=Ch t L;rwa [show iS t L=L.length from jB,List.take_length]at this
  rw[hi]at VO;rw[he,<-hn,Nat.sub_self];simp only[List.replicate_zero,List.append_nil];refine aL func125 ntmps125 ?_;refine S ?_
  (repeat' (first|refine aq fun K hK=>?_|refine au ?_|(refine hK _ _ ?_;clear hK K)|(refine ap ?_ ?_<;>intro hc<;>try exact jz)|refine cm (VO) ?_|refine ar ?_|exact jI|(clear hK K)))
  (refine aZ [.tmp 4] ?_;try simp only[go_sem])
 ·have hi:rO t L=(iS t L:Int):=by unfold rO;rw[if_pos hq]
  have hE0:=Ch t L;have T8:=FZ hq;rw[hi]at VO;have VN:¬(iS t L:Int)=-1:=jB;have hE1:eH (L.take (iS t L+1)) t=L.take (iS t L):=by rw[ub hq,Db,jN,hE0]
  have Yv:L.take (iS t L)++[nth L (iS t L)]++L.drop (iS t L+1)=L:=by rw[<-ub hq,List.take_append_drop]
  generalize iS t L=q at*;have Wj:(L.take q).length=q:=by rw[List.length_take];omega
  refine aL func125 ntmps125 ?_;refine S ?_
  (have W:=VN;repeat' (first|refine aq fun K hK=>?_|refine au ?_|(refine hK _ _ ?_;clear hK K)|(refine ap ?_ ?_<;>intro hc<;>try exact jz)|refine cm (VO) ?_|refine ar ?_|exact jI|(clear hK K)))
  have Tk:=hK;clear hK;refine eu (S:=Nat×List aD) [(5,3),(16,20)] (fun s=>s.1<=n/\(eH (L.take s.1) t).length+s.2.length=s.1/\0<s.2.length) (fun s=>[(5,rI (eH (L.take s.1) t).length),(6,rI s.1)]) (fun s=>⟨[1,6],[(1,.aF 56 5 ((eH (L.take s.1) t++s.2++L.drop s.1).map bA)),(6,.var 3 [rI t])]⟩) (fun s=>n-s.1) (q+1,[nth L q]) ⟨by show q+1<=n;omega,by show(eH (L.take (q+1)) t).length+1=q+1;rw[hE1,Wj],Nat.zero_lt_succ 0⟩ ?_ ?_
  ·show dO _ _ (mB [(5,rI (eH (L.take (q+1)) t).length),(6,rI (q+1:Nat))] _) ⟨[1,6],[(1,.aF 56 5 ((eH (L.take (q+1)) t++[nth L q]++L.drop (q+1)).map bA)),(6,.var 3 [rI t])]⟩;rw[hE1,Yv,Wj];exact eD rfl cH
  rintro⟨j,J⟩ ⟨hj,I',hJ⟩ Kr Tg;have hj:j<=n:=hj;have I':(eH (L.take j) t).length+J.length=j:=I';have hJ:0<J.length:=hJ;by_cases O':j<n
  ·have XQ:j<L.length:=jB;have Vq:=ub XQ;have XM:eH (L.take (j+1)) t=if(nth L j).at_<=t then eH (L.take j) t++[nth L j]else eH (L.take j) t:=by rw[Vq,Db]
   have Xj:L.drop j=nth L j::L.drop (j+1):=by rw[fJ XQ];exact List.drop_eq_getElem_cons XQ
   have Tn:=DL (nth L j) t;generalize hx:nth L j=x at*;generalize hE:eH (L.take j) t=E at*;have Yi:nth (E++J++L.drop j) j=x:=by rw[Xj];unfold nth;rw[List.getD_eq_getElem?_getD,List.getElem?_append_right (by rw[List.length_append];omega),List.length_append,I',Nat.sub_self];rfl
   have Vc:(E++J++L.drop j).length=n:=by rw[List.length_append,List.length_append,List.length_drop];omega
   generalize hR:E++J++L.drop j=R at*;by_cases c:t<x.at_
   ·rw[decide_eq_true c]at Tn;rw[jN]at XM;refine S ?_
    (have W:=jA O' (jA Yi (Vc));repeat' (first|refine aq fun K hK=>?_|refine au ?_|(refine hK _ _ ?_;clear hK K)|(refine ap ?_ ?_<;>intro hc<;>try exact jz)|refine al 7 ?_|(refine cl Tn ?_)|refine ar ?_|exact jI|(clear hK K)))
    have Ud:eH (L.take (j+1)) t++(J++[x])++L.drop (j+1)=R:=by rw[XM,<-hR,Xj];simp
    refine Tg _ _ (pg [7] (j+1,J++[x]) ⟨by show j+1<=n;omega,by show(eH (L.take (j+1)) t).length+(J++[x]).length=j+1;rw[XM,List.length_append];simp only[List.length_cons,List.length_nil];omega,by show 0<(J++[x]).length;rw[List.length_append];omega⟩ (by show n-(j+1)<n-j;omega) rfl Sd ?_ ?_)
    ·simp only[Ud];rfl
    ·simp only[XM];exact jh
   ·rw[decide_eq_false c]at Tn;rw[jP]at XM;refine S ?_
    (have W:=jA O' (jA Yi (Vc));repeat' (first|refine aq fun K hK=>?_|refine au ?_|(refine hK _ _ ?_;clear hK K)|(refine ap ?_ ?_<;>intro hc<;>try exact jz)|refine al 7 ?_|(refine cl Tn ?_)|refine ar ?_|exact jI|(clear hK K)))
    have Td:(R.map bA).set E.length (bA x++List.drop 5 (bA (nth R E.length)))=(R.set E.length x).map bA:=(List.map_set (f:=bA)).symm;have Ud:eH (L.take (j+1)) t++(J.drop 1++[x])++L.drop (j+1)=R.set E.length x:=by
     rw[XM,<-hR,Xj];obtain⟨y,J',rfl⟩:∃y J',J=y::J':=by
      cases J with
      |nil=>simp at hJ
      |cons y J'=>exact⟨y,J',rfl⟩
     simp
    rw[Td];refine Tg _ _ (pg [7] (j+1,J.drop 1++[x]) ⟨by show j+1<=n;omega,by show(eH (L.take (j+1)) t).length+(J.drop 1++[x]).length=j+1;rw[XM,List.length_append,List.length_append,List.length_drop];simp only[List.length_cons,List.length_nil];omega,by show 0<(J.drop 1++[x]).length;rw[List.length_append];simp only[List.length_cons];omega⟩ (by show n-(j+1)<n-j;omega) rfl Sd ?_ ?_)
    ·simp only[Ud];rfl
    ·simp only[XM,List.length_append,List.length_cons,List.length_nil];exact jh
  ·have hje:j=n:=jB;subst hje;have hz:((eH (L.take j) t++J++L.drop j).map bA).length=j:=by rw[List.length_map,List.length_append,List.length_append,List.length_drop];omega
   rw[hn,List.take_length,<-hn]at I';rw[hn,List.take_length,List.drop_length,List.append_nil,<-hn]at hz ⊢;have Wo:dr ((eH L t++J).map bA) (eH L t).length (List.replicate (j-(eH L t).length) (sf.map AV.raw))=(eH L t++List.replicate (j-(eH L t).length) Cy).map bA:=by unfold dr;rw[List.map_append,List.map_append,List.map_replicate];have h1:=List.take_left (l₁:=(eH L t).map bA) (l₂:=J.map bA);rw[List.length_map]at h1;rw[h1,List.length_replicate,List.drop_of_length_le (by rw[List.length_append,List.length_map,List.length_map];omega),List.append_nil];rfl
   generalize eH L t=E at*;simp only[List.map_append]at hz Wo;refine S ?_
   (have W:=jA O' hz;repeat' (first|refine aq fun K hK=>?_|refine au ?_|(refine hK _ _ ?_;clear hK K)|(refine ap ?_ ?_<;>intro hc<;>try exact jz)|(refine D3 (zs:=sf) rfl hz.symm jG jG jG rfl jC rfl jB ?_;refine S ?_)|refine Tk _ _ ?_|refine ar ?_|exact jI|(clear hK K)))
   rw[Wo]
   (refine aZ [.tmp 4] ?_;try simp only[go_sem])
def F9(l:List aD)(t:Int)(hl:l.length<=1000):aB prog 69 [aM bA 5 l,rI t] (aM bA 5 (eH l t)):=by
 have Tc:=Cs l hl 1;have hd:=SE t l hl _ rfl;have Vk:=B9 l t;refine bM func69 ntmps69 ?_
 (repeat' (first|refine aq fun K hK=>?_|refine au ?_|(refine hK _ _ ?_;clear hK K)|(refine ap ?_ ?_<;>intro hc<;>try exact jz)|refine bx 6 ?_|refine cm (Tc) ?_|refine cm (hd) ?_|refine ar ?_|exact jI|(clear hK K)))
 refine fC [.tmp 4] ?_;exact cW.pk (eH l t) (List.replicate (l.length-(eH l t).length) Cy) rfl (by rw[List.map_append];rfl) (by rw[List.length_replicate];omega) rfl
end Go.Proofs.YtjpcgmjaipfgdaaGreatDoor