/- Lemmas. No conditions. -/
import Derived.Test.YtjpcgmjaipfgdaaGreatDoorRpQ
set_option linter.all false
set_option maxHeartbeats 4000000
set_option maxRecDepth 10000
namespace Go.Gd
open Go
def AI:List aD->Prop
 |[]=>True
 |x::l=>(∀y,l.head?=some y->x.at_<=y.at_)/\AI l
def dT(E:List aD)(t:Int):List aD:=E.filter fun x=>decide (x.at_<=t)
def kJ(x:aD):List aD->List aD
 |[]=>[x]
 |y::l=>if x.at_<y.at_ then x::y::l else y::kJ x l
def kS:List aD->List aD->List aD
 |a,[]=>a
 |a,x::b=>kS (kJ x a) b
def lH(x:aD):List aD->Nat
 |[]=>0
 |y::l=>if x.at_<y.at_ then 0 else lH x l+1
def nH(x:aD):Bool:=decide (1<=x.name.size) && decide (x.name.size<=8) && decide (0<=x.at_) && decide (x.at_<=200) && decide (x.v.ty≠4) && lQ x.v
theorem CP(x:aD):∀l,lH x l<=l.length
 |[]=>Nat.le_refl _
 |y::l=>by
  unfold lH;split
  ·exact Nat.zero_le _
  ·have:=CP x l;simp only[List.length_cons];omega
theorem CG(x:aD):∀l,kJ x l=l.take (lH x l)++x::l.drop (lH x l)
 |[]=>rfl
 |y::l=>by
  unfold kJ lH;split
  ·rfl
  ·rw[CG x l];rfl
def iC(x:aD)(l:List aD):(kJ x l).length=l.length+1:=by have:=CP x l;rw[CG,List.length_append,List.length_cons,List.length_take,List.length_drop];omega
theorem zL:∀(b a:List aD),(kS a b).length=a.length+b.length
 |[],a=>rfl
 |x::b,a=>by show(kS (kJ x a) b).length=_;rw[zL b,iC];simp only[List.length_cons];omega
theorem CE{x y:aD}:∀{l:List aD},y∈kJ x l<->y=x\/y∈l
 |[]=>by simp[kJ]
 |z::l=>by
  unfold kJ;split
  ·simp
  ·rw[List.mem_cons,CE,List.mem_cons];constructor
   ·rintro(h|h|h)
    ·exact .inr (.inl h)
    ·exact .inl h
    ·exact .inr (.inr h)
   ·rintro(h|h|h)
    ·exact .inr (.inl h)
    ·exact .inl h
    ·exact .inr (.inr h)
theorem HS{y:aD}:∀{b a:List aD},y∈kS a b<->y∈a\/y∈b
 |[],a=>by simp[kS]
 |x::b,a=>by
  show y∈kS (kJ x a) b<->_;rw[HS,CE,List.mem_cons];constructor
  ·rintro((h|h)|h)
   ·exact .inr (.inl h)
   ·exact .inl h
   ·exact .inr (.inr h)
  ·rintro(h|h|h)
   ·exact .inl (.inr h)
   ·exact .inl (.inl h)
   ·exact .inr h
def EM{l:List aD}{t:Int}{x:aD}(h:x∈dT l t):x∈l/\x.at_<=t:=by unfold dT at h;rw[List.mem_filter]at h;exact⟨h.1,by simpa using h.2⟩
variable{A:TC}
def Lw{S:TC}{y:TE}{k:Nat}(hk:k<A.length)(hS:0<S.length):du (du (A++S) (k+1) (A.drop k)) k [y]=A.take k++y::A.drop k++S.drop 1:=by
 unfold du;simp only[List.length_drop,List.length_cons,List.length_nil];have h1:(A++S).take (k+1)=A.take (k+1):=by rw[List.take_append_of_le_length jB]
 have h2:(A++S).drop (k+1+(A.length-k))=S.drop 1:=by rw[show k+1+(A.length-k)=A.length+1 from jB,<-List.drop_drop,List.drop_left]
 have h3:(A.take (k+1)).length=k+1:=by rw[List.length_take];omega
 rw[h1,h2,List.append_assoc (A.take (k+1)),List.take_append_of_le_length (l₁:=A.take (k+1)) jB,List.take_take,Nat.min_eq_left jB];rw[show k+(0+1)=k+1 from jB];have h4:(A.take (k+1)++(A.drop k++S.drop 1)).drop (k+1)=A.drop k++S.drop 1:=by have:=List.drop_left (l₁:=A.take (k+1)) (l₂:=A.drop k++S.drop 1);rwa [h3]at this
 rw[h4];simp
def QW{R:TC}{y:TE}{k:Nat}(hk:k<A.length)(hR:R.length=A.length+1-k):du (du (A.take k++R) k [y]) (k+1) (A.drop k)=A.take k++y::A.drop k:=by
 have h3:(A.take k).length=k:=by rw[List.length_take];omega
 unfold du;simp only[List.length_drop,List.length_cons,List.length_nil];have h4:(A.take k++R).take k=A.take k:=by have:=List.take_left (l₁:=A.take k) (l₂:=R);rwa [h3]at this
 have h5:(A.take k++R).drop (k+(0+1))=R.drop 1:=by rw[show k+(0+1)=k+1 from jB,<-List.drop_drop];have:=List.drop_left (l₁:=A.take k) (l₂:=R);rw[h3]at this;rw[this]
 rw[h4,h5];have h6:(A.take k++[y]++R.drop 1).take (k+1)=A.take k++[y]:=by have:=List.take_left (l₁:=A.take k++[y]) (l₂:=R.drop 1);rwa [List.length_append,h3,List.length_cons,List.length_nil]at this
 have h7:(A.take k++[y]++R.drop 1).drop (k+1+(A.length-k))=[]:=by apply List.drop_of_length_le;rw[List.length_append,List.length_append,h3,List.length_drop];simp only[List.length_cons,List.length_nil];omega
 rw[h6,h7];simp
def s9:TM:=[.int .i64 0,.string ⟨#[]⟩,.int .i64 0,.int .i64 0,.string ⟨#[]⟩]
abbrev Cy:TE:=List.map AV.raw s9
theorem Hc(q:TN):∀l:List aD,aX q (l.map bw).flatten=true
 |[]=>rfl
 |x::l=>by rw[List.map_cons,List.flatten_cons,uV,Hc q l,IN];rfl
theorem IJ{x:aD}:∀{L:List aD} {k:Nat},(∀j,j<k->¬x.at_<(nth L j).at_)->k<L.length->x.at_<(nth L k).at_->lH x L=k
 |[],k,_,h,_=>by simp at h
 |y::L,0,_,_,h=>by exact if_pos h
 |y::L,k+1,h1,h2,h3=>by show(if x.at_<y.at_ then 0 else lH x L+1)=_;rw[if_neg (show¬x.at_<y.at_ from h1 0 jB),IJ (L:=L) (k:=k) (fun j hj=>h1 (j+1) jB) (by simpa using h2) h3]
theorem Dg{x:aD}:∀{L:List aD},(∀j,j<L.length->¬x.at_<(nth L j).at_)->lH x L=L.length
 |[],_=>rfl
 |y::L,h=>by show(if x.at_<y.at_ then 0 else lH x L+1)=_;rw[if_neg (show¬x.at_<y.at_ from h 0 jE),Dg (L:=L) (fun j hj=>h (j+1) jF)];rfl
def sr(x:aD)(L:List aD):Int:=if lH x L<L.length then(lH x L:Int)else -1
def SE(l:List aD):∀(a:List aD) (x:aD),kS l (a++[x])=kJ x (kS l a):=fun a=>by
 induction a generalizing l with
 |nil=>intro x;rfl
 |cons y a ih=>intro x;exact ih (kJ y l) x
def iU(t:Int):List aD->Nat
 |[]=>0
 |y::l=>if t<y.at_ then 0 else iU t l+1
theorem Jz{t:Int}:∀{L:List aD} {k:Nat},(∀j,j<k->¬t<(nth L j).at_)->k<L.length->t<(nth L k).at_->iU t L=k
 |[],k,_,h,_=>by simp at h
 |y::L,0,_,_,h=>if_pos h
 |y::L,k+1,h1,h2,h3=>by show(if t<y.at_ then 0 else iU t L+1)=_;rw[if_neg (show¬t<y.at_ from h1 0 jB),Jz (L:=L) (k:=k) (fun j hj=>h1 (j+1) jB) (by simpa using h2) h3]
theorem Ey{t:Int}:∀{L:List aD},(∀j,j<L.length->¬t<(nth L j).at_)->iU t L=L.length
 |[],_=>rfl
 |y::L,h=>by show(if t<y.at_ then 0 else iU t L+1)=_;rw[if_neg (show¬t<y.at_ from h 0 jE),Ey (L:=L) (fun j hj=>h (j+1) jF)];rfl
def rQ(t:Int)(L:List aD):Int:=if iU t L<L.length then(iU t L:Int)else -1
theorem H7(t:Int):∀L,iU t L<=L.length
 |[]=>Nat.le_refl _
 |y::l=>by
  unfold iU;split
  ·exact Nat.zero_le _
  ·have:=H7 t l;simp only[List.length_cons];omega
theorem BR(t:Int):∀L:List aD,dT (L.take (iU t L)) t=L.take (iU t L)
 |[]=>rfl
 |y::l=>by
  unfold iU;split
  ·rfl
  ·rename_i c;have ih:=BR t l;unfold dT at ih ⊢;rw[List.take_succ_cons,List.filter_cons_of_pos (by simpa using Int.not_lt.1 c),ih]
theorem HW{t:Int}:∀{L:List aD},iU t L<L.length->t<(nth L (iU t L)).at_
 |[],h=>by simp[iU]at h
 |y::l,h=>by
  unfold iU at h ⊢;split
  ·rename_i c;exact c
  ·rename_i c;rw[if_neg c]at h;simp only[List.length_cons]at h;exact HW (L:=l) jB
def GQ(L:List aD)(x:aD)(t:Int):dT (L++[x]) t=if x.at_<=t then dT L t++[x]else dT L t:=by
 unfold dT;rw[List.filter_append];split
 ·rename_i h;rw[List.filter_cons_of_pos (by simpa using h)];rfl
 ·rename_i h;rw[List.filter_cons_of_neg (by simpa using h)];simp
def Ch(L:List aD)(t:Int):(dT L t).length<=L.length:=List.length_filter_le _ _
def ij(name:TI)(ty:Int):List bD->Int->Int
 |[],_=>-1
 |v::l,i=>if v.name=name/\v.ty=ty then i else ij name ty l (i+1)
theorem Jj(name:TI)(ty:Int):∀(l:List bD) (i:Int),0<=i->(ij name ty l i=-1\/(i<=ij name ty l i/\ij name ty l i<i+l.length))
 |[],i,_=>.inl rfl
 |v::l,i,h=>by
  unfold ij;split
  ·right;simp only[List.length_cons];omega
  ·rcases Jj name ty l (i+1) jB with e|e
   ·exact .inl e
   ·right;simp only[List.length_cons];omega
theorem xQ(name:TI)(ty:Int):∀(l:List bD) (i:Nat),0<=ij name ty l (i:Int)->∃k:Nat,ij name ty l (i:Int)=(i:Int)+k/\k<l.length/\((nth l k).name=name/\(nth l k).ty=ty)/\∀j,j<k->¬((nth l j).name=name/\(nth l j).ty=ty)
 |[],i,h=>by unfold ij at h;omega
 |v::l,i,h=>by
  unfold ij at h ⊢;by_cases c:v.name=name/\v.ty=ty
  ·rw[if_pos c];exact⟨0,jB,jE,c,fun j hj=>jB⟩
  ·rw[if_neg c]at h ⊢;obtain⟨k,e,hk,g,f⟩:=xQ name ty l (i+1) (by push_cast;exact h);refine⟨k+1,by push_cast at e ⊢;omega,by simp;omega,g,fun j hj=>?_⟩;cases j with
   |zero=>exact c
   |succ j=>exact f j jB
theorem DX(name:TI)(ty:Int):∀(l:List bD) (i:Nat),ij name ty l (i:Int)<0->∀j,j<l.length->¬((nth l j).name=name/\(nth l j).ty=ty)
 |[],i,h,j,hj=>by simp at hj
 |v::l,i,h,j,hj=>by
  unfold ij at h;by_cases c:v.name=name/\v.ty=ty
  ·rw[if_pos c]at h;omega
  ·rw[if_neg c]at h;cases j with
   |zero=>exact c
   |succ j=>exact DX name ty l (i+1) (by push_cast;exact h) j (by simpa using hj)
section
variable {σ:Type}(tm:σ->Int)(st:σ->σ)(se:σ->TI->aj->Option σ)(E:List aD)
def eW:Nat->σ->Nat->Bool->σ×Nat×Bool
 |0,s,k,b=>(s,k,b)
 |n+1,s,k,b=>
  if b=false/\k<E.length/\(nth E k).at_=tm s then
   match se s (nth E k).name (nth E k).v with
   |some s'=>eW n s' (k+1) false
   |none=>(s,k,true)
  else(s,k,b)
def iQ(t:Int):Nat->σ->Nat->Bool->σ×Nat×Bool
 |0,s,k,b=>(s,k,b)
 |n+1,s,k,b=>
  if tm (eW tm se E (E.length+1) s k b).1=t then eW tm se E (E.length+1) s k b
  else if tm (st (eW tm se E (E.length+1) s k b).1)=tm (eW tm se E (E.length+1) s k b).1 then(st (eW tm se E (E.length+1) s k b).1,(eW tm se E (E.length+1) s k b).2)
  else iQ t n (st (eW tm se E (E.length+1) s k b).1) (eW tm se E (E.length+1) s k b).2.1 (eW tm se E (E.length+1) s k b).2.2
def na(t:Int)(r:σ×Nat×Bool):Int:=if r.2.1<E.length/\(nth E r.2.1).at_<=t then r.2.1+1 else 0
end
def eD(t:Int):Int:=min (max t 0) 200
section
variable {σ:Type}{tm:σ->Int}{st:σ->σ}{se:σ->TI->aj->Option σ}{E:List aD}
structure mQ(tm:σ->Int)(st:σ->σ)(se:σ->ByteArray->aj->Option σ)(E:List aD)(I:σ->Prop):Prop where
 se:∀s k s',I s->k<E.length->se s (nth E k).name (nth E k).v=some s'->I s'/\tm s'=tm s
 st:∀s,I s->tm s<200->I (st s)/\(tm (st s)=tm s\/tm (st s)=tm s+1)
 tm:∀s,I s->0<=tm s
variable {I:σ->Prop}
theorem xN(h:mQ tm st se E I):∀(n:Nat) (s:σ) (k:Nat) (b:Bool),I s->I (eW tm se E n s k b).1/\tm (eW tm se E n s k b).1=tm s/\k<=(eW tm se E n s k b).2.1/\(k<=E.length->(eW tm se E n s k b).2.1<=E.length)
 |0,s,k,b,hs=>⟨hs,rfl,Nat.le_refl _,fun h=>h⟩
 |n+1,s,k,b,hs=>by
  unfold eW;split
  ·rename_i hc;split
   ·rename_i s' W0;obtain⟨a1,a2⟩:=h.se s k s' hs hc.2.1 W0;obtain⟨b1,b2,b3,b4⟩:=xN h n s' (k+1) false a1;exact⟨b1,b2.trans a2,jB,fun _=>b4 jB⟩
   ·exact⟨hs,rfl,Nat.le_refl _,fun h=>h⟩
  ·exact⟨hs,rfl,Nat.le_refl _,fun h=>h⟩
theorem wN(h:mQ tm st se E I){t:Int}(ht:t<=200):∀(n:Nat) (s:σ) (k:Nat) (b:Bool),I s->tm s<=t->k<=E.length->I (iQ tm st se E t n s k b).1/\(iQ tm st se E t n s k b).2.1<=E.length/\tm (iQ tm st se E t n s k b).1<=t/\k<=(iQ tm st se E t n s k b).2.1
 |0,s,k,b,hs,h1,hk=>⟨hs,hk,h1,Nat.le_refl _⟩
 |n+1,s,k,b,hs,h1,hk=>by
  obtain⟨a1,a2,a3,a4⟩:=xN h (E.length+1) s k b hs;unfold iQ;split
  ·exact⟨a1,a4 hk,jB,a3⟩
  rename_i UK;have O':tm (eW tm se E (E.length+1) s k b).1<200:=jB;obtain⟨c1,c2⟩:=h.st _ a1 O';split
  ·exact⟨c1,a4 hk,by show tm (st (eW tm se E (E.length+1) s k b).1)<=t;omega,a3⟩
  ·rename_i hne2;obtain⟨d1,d2,d3,d4⟩:=wN h ht n _ (eW tm se E (E.length+1) s k b).2.1 (eW tm se E (E.length+1) s k b).2.2 c1 jB (a4 hk);exact⟨d1,d2,d3,jB⟩
end
end Go.Gd
namespace Go.Proofs.YtjpcgmjaipfgdaaGreatDoor
open Go Go.Gd Tryz
def Dy(l:List aD):Go.Gd.Good 5 (l.map bw):=fun c hc=>by obtain⟨y,_,rfl⟩:=List.mem_map.1 hc;exact⟨rfl,rfl⟩
def Sw(l:List aD)(x:aD)(k:Nat)(hk:k<=l.length)(hl:l.length<=1000)(n:Nat)(hn:n=l.length):ab prog 131 [.rs 1 n 5 n,rI k,.sl true 5 [bw x] []] [(1,.aG 56 5 (l.map bw))] (fun r l'=>r=.rs 1 (n+1) 5 (n+1)/\l'=[(1,.aG 56 5 ((l.take k++x::l.drop k).map bw))]):=by
 have Vv:(l.map bw).length=n:=by rw[List.length_map,hn]
 by_cases ZJ:k=n
 ·subst ZJ;have e:l.take k++x::l.drop k=l++[x]:=by rw[hn,List.take_length,List.drop_length]
  rw[e,List.map_append];refine aM func131 ntmps131 ?_;refine S ?_
  (have W:=Vv;repeat' (first|refine aq fun K hK=>?_|refine ap ?_|(refine hK _ _ ?_;clear hK K)|(refine ao ?_ ?_<;>intro hc<;>try exact jz)|refine ar ?_|exact jI|(clear hK K)))
  (refine bV [.tmp 6] ?_ ?_<;>(try simp only[go_sem]))
 ·have Wv:(l.take k++x::l.drop k).map bw=(l.map bw).take k++bw x::(l.map bw).drop k:=by rw[List.map_append,List.map_cons,List.map_take,List.map_drop]
  have XC:(l.drop k).map bw=(l.map bw).drop k:=List.map_drop;have hg:=Dy (l.drop k);have Uo:Go.Gd.Good 5 [bw x]:=Dy [x];rw[XC]at hg;have hdl:((l.map bw).drop k).length=n-k:=by rw[List.length_drop,Vv]
  have hkI:¬(k:Int)=(n:Int):=jB;have YG:∀j:Nat,1<=j->Nat.min 1 j=[bw x].length:=fun j h=>Nat.min_eq_left h
  have YH:∀j i:Nat,(j=n-k/\n-k<=i)\/(i=n-k/\n-k<=j)->Nat.min j i=((l.map bw).drop k).length:=fun j i h=>by
   rw[hdl];rcases h with⟨h1,h2⟩|⟨h1,h2⟩
   ·rw[h1];exact Nat.min_eq_left h2
   ·rw[h1];exact Nat.min_eq_right h2
  refine ab.wu (i:=1) (css:=l.map bw) (X:=(l.take k++x::l.drop k).map bw) (l:=[(1,.aG 56 5 (l.map bw))]) 9 jB rfl Vv.symm (fun j r h1 h2=>?_) (by rw[List.length_map,List.length_append,List.length_cons,List.length_take,List.length_drop];omega) (Hc _ _) (fun y hy=>by obtain⟨z,_,rfl⟩:=List.mem_map.1 hy;rfl) rfl ?_ fun c hc=>?_
  ·simp only[aA]at h1;split at h1
   ·rename_i e;exact(h2 e).elim
   ·cases h1
  ·have Wo:(n:Int)+1>(n:Int):=jB;show ab _ _ _ [(1,.aG 56 5 (l.map bw))] (fun r l'=>r=.rs 9 (n+1) 5 (n+1)/\l'=[(1,.aG 56 5 (l.map bw)),(9,.aG 56 5 ((l.take k++x::l.drop k).map bw))]);rw[Wv];have WK:=QW (A:=l.map bw) (R:=List.replicate (n+1-k) Cy) (y:=bw x) (k:=k) jB (by rw[List.length_replicate,Vv]);have VK:((l.map bw).drop k).take (n-k)=(l.map bw).drop k:=List.take_of_length_le jB;have h9:n+1=((l.map bw).take k++List.replicate (n+1-k) Cy).length:=by rw[List.length_append,List.length_take,List.length_replicate,Vv];omega
   have h9':n+1=(du ((l.map bw).take k++List.replicate (n+1-k) Cy) k [bw x]).length:=by rw[tz _ jB,<-h9];simp only[List.length_cons,List.length_nil];omega
   generalize l.map bw=A at*;refine aM func131 ntmps131 ?_;refine S ?_
   (have W:=jA Vv (jA hkI (Wo));repeat' (first|refine aq fun K hK=>?_|refine ap ?_|(with_reducible refine gR 11 ?_);refine dE 11 (aW 0 9) mixed ?_|(refine hK _ _ ?_;clear hK K)|(refine ao ?_ ?_<;>intro hc<;>try exact jz)|(refine Ta (zs:=s9) (j:=9) (k:=n+1-k) (n:=n+1) jG ⟨.i64,jG⟩ jG jG rfl jC rfl Vv.symm jB jB (by simp only[go_sem,room];omega) jB rfl jB ?_;refine S ?_)|(refine zV (k:=1) (ys:=[bw x]) (zs:=s9) rfl h9 jG jG jG rfl jC jB jB (G6 (c:=True) rfl trivial Uo) Uo (YG _ jB) ?_;refine S ?_)|(refine zV (k:=n-k) (ys:=A.drop k) (zs:=s9) rfl h9' jG jG jG rfl jC jB jB (fun w vx h1 h2=>by have:=Gf (n:=n-k) (css:=A) rfl Vv.symm jB jl w vx h1 h2;rwa [VK]at this) hg (YH _ _ jB) ?_;refine S ?_)|refine ar ?_|exact jI|(clear hK K)))
   rw[WK]
   (refine bV [.tmp 6] ?_ ?_<;>(try simp only[go_sem]))
  ·have Wo:¬(n:Int)+1>(c:Int):=jB;show ab _ _ _ [(1,.aG 56 5 (l.map bw++gf 5 (c-n)))] (fun r l'=>r=.rc 1 c 5 (n+1)/\l'=[(1,.aG 56 5 ((l.take k++x::l.drop k).map bw++gf 5 (c-(n+1))))]);rw[Wv];have hSl:(gf 5 (c-n)).length=c-n:=zM;have hS1:(gf 5 (c-n)).drop 1=gf 5 (c-(n+1)):=by unfold gf;rw[List.drop_replicate];congr 1
   have WK:=Lw (A:=l.map bw) (S:=gf 5 (c-n)) (y:=bw x) (k:=k) jB jB;rw[hS1]at WK;have h8:c=(l.map bw++gf 5 (c-n)).length:=by rw[List.length_append,Vv,hSl];omega
   have h9:c=(du (l.map bw++gf 5 (c-n)) (k+1) ((l.map bw).drop k)).length:=by rw[tz _ jB,<-h8,hdl];omega
   have VK:((l.map bw++gf 5 (c-n)).drop k).take (n-k)=(l.map bw).drop k:=by rw[List.drop_append_of_le_length jB,List.take_append_of_le_length jB,List.take_of_length_le jB]
   have UT:n+1<=c:=jB;generalize gf 5 (c-(n+1))=Sq at*;generalize gf 5 (c-n)=Sp at*;generalize l.map bw=A at*;refine aM func131 ntmps131 ?_;refine S ?_
   (have W:=jA Vv (jA hkI (Wo));repeat' (first|refine aq fun K hK=>?_|refine ap ?_|(with_reducible refine gR 15 ?_);refine dE 15 (aW 0 9) mixed ?_|(refine hK _ _ ?_;clear hK K)|(refine ao ?_ ?_<;>intro hc<;>try exact jz)|(refine Rh ?_;refine Ko (t:=50) (fn:=Tryz.f179) (tR:=4) func179 jG jG jG jG jG jG rfl h8 jB jB (Nat.zero_lt_succ 0) ?_;refine S ?_)|(refine zV (k:=n+1-k) (ys:=A.drop k) (zs:=s9) rfl h8 jG jG jG rfl jC jB jB (fun w vx h1 h2=>by have:=Gf (n:=n-k) (css:=A++Sp) rfl h8 jB jB w vx h1 h2;rwa [VK]at this) hg (YH _ _ jB) ?_;refine S ?_)|(refine zV (k:=1) (ys:=[bw x]) (zs:=s9) rfl h9 jG jG jG rfl jC jB jB (G6 (c:=True) rfl trivial Uo) Uo (YG _ jB) ?_;refine S ?_)|refine ar ?_|exact jI|(clear hK K)))
   rw[WK]
   (refine bV [.tmp 6] ?_ ?_<;>(try simp only[go_sem]))
def Bb(l:List aD)(hl:l.length<=1000)(i:Nat):ab prog 56 [aO bw 5 l] [] (fun r l'=>r=.rs i l.length 5 l.length/\l'=[(i,.aG 56 5 (l.map bw))]):=by
 refine aM func56 ntmps56 ?_
 (repeat' (first|refine aq fun K hK=>?_|refine ap ?_|(refine hK _ _ ?_;clear hK K)|(refine ao ?_ ?_<;>intro hc<;>try exact jz)|(with_reducible refine fun(b:Bool) hb=>?_)|refine uU i ?_|refine ar ?_|exact jI|(clear hK K)))
 ·have Uq:l=[]:=by simpa using hb hc
  subst Uq;exact xt i 56 5 jC [.tmp 2] rfl rfl trivial
 ·(refine bV [.tmp 2] ?_ ?_<;>(try simp only[go_sem]))
def Ob(y x:aD):ab prog 130 [.agg (bw y),.pt 6 0 0 0] [(6,.var 56 (bw x))] (fun r l=>r=rB (decide (x.at_<y.at_))/\l=[(6,.var 56 (bw x))]):=by
 refine aM func130 ntmps130 ?_;refine S ?_
 (repeat' (first|refine aq fun K hK=>?_|refine ap ?_|(refine hK _ _ ?_;clear hK K)|(refine ao ?_ ?_<;>intro hc<;>try exact jz)|refine bx 9 ?_|refine ar ?_|exact jI|(clear hK K)))
 (refine aY [.tmp 3] ?_;try simp only[go_sem])
def Pw(x:aD)(L:List aD)(hL:L.length<=1000)(n:Nat)(hn:n=L.length):ab prog 129 [.rs 1 n 5 n,.dP 130 [.pt 6 0 0 0]] [(1,.aG 56 5 (L.map bw)),(6,.var 56 (bw x))] (fun r l=>r=rI (sr x L)/\l=[(1,.aG 56 5 (L.map bw)),(6,.var 56 (bw x))]):=by
 suffices key:∀z,sr x L=z->ab prog 129 [.rs 1 n 5 n,.dP 130 [.pt 6 0 0 0]] [(1,.aG 56 5 (L.map bw)),(6,.var 56 (bw x))] (fun r l=>r=rI z/\l=[(1,.aG 56 5 (L.map bw)),(6,.var 56 (bw x))]) from key _ rfl
 intro z hz;have Vv:(L.map bw).length=n:=by rw[List.length_map,hn]
 refine aM func129 ntmps129 ?_;refine S ?_
 (repeat' (first|refine aq fun K hK=>?_|refine ap ?_|(refine hK _ _ ?_;clear hK K)|(refine ao ?_ ?_<;>intro hc<;>try exact jz)|refine ar ?_|exact jI|(clear hK K)))
 have TX:=hK;clear hK;refine dV (S:=Nat) [(4,2),(8,11)] (fun k=>k<=n/\∀j,j<k->¬x.at_<(nth L j).at_) (fun k=>[(8,rI k)]) (fun _=>⟨[1,6],[(1,.aG 56 5 (L.map bw)),(6,.var 56 (bw x))]⟩) (fun k=>n-k) 0 ⟨Nat.zero_le _,fun j h=>jB⟩ (dS rfl cv) ?_;rintro k ⟨hk,TS⟩ Kr TR;by_cases O':k<n
 ·have T0:=Ob (nth L k) x;have Vf:k<L.length:=jB;by_cases c:x.at_<(nth L k).at_
  ·rw[decide_eq_true c]at T0;have hp:=IJ TS Vf c;have:z=(k:Int):=by rw[<-hz];unfold sr;rw[hp,if_pos Vf]
   subst this;refine S ?_
   (have W:=jA O' (jA Vv (Vf));repeat' (first|refine aq fun K hK=>?_|refine ap ?_|(refine hK _ _ ?_;clear hK K)|(refine ao ?_ ?_<;>intro hc<;>try exact jz)|(refine cl T0 ?_)|refine ar ?_|exact jI|(clear hK K)))
   (refine aY [.tmp 4] ?_;try simp only[go_sem])
  ·rw[decide_eq_false c]at T0;refine S ?_
   (have W:=jA O' (jA Vv (Vf));repeat' (first|refine aq fun K hK=>?_|refine ap ?_|(refine hK _ _ ?_;clear hK K)|(refine ao ?_ ?_<;>intro hc<;>try exact jz)|(refine cl T0 ?_)|refine ar ?_|exact jI|(clear hK K)))
   exact TR _ _ (eu (k+1) ⟨jB,fun j hj=>by
    by_cases e:j<k
    ·exact TS j e
    ·rw[show j=k from jB];exact c⟩ (by show n-(k+1)<n-k;omega) rfl cv)
 ·have hp:=Dg (x:=x) (L:=L) fun j hj=>TS j jB
  have:z=-1:=by rw[<-hz];unfold sr;rw[hp,if_neg (Nat.lt_irrefl _)]
  subst this;refine S ?_
  (have W:=jA O' Vv;repeat' (first|refine aq fun K hK=>?_|refine ap ?_|(refine hK _ _ ?_;clear hK K)|(refine ao ?_ ?_<;>intro hc<;>try exact jz)|refine TX _ _ ?_|refine ar ?_|exact jI|(clear hK K)))
  (refine aY [.tmp 4] ?_;try simp only[go_sem])
def DI(l all:List aD)(h1:l.length<=500)(h2:all.length<=500):aB prog 76 [aO bw 5 l,aO bw 5 all] (aO bw 5 (kS l all)):=by
 have Tx:=Bb l jB 1;refine bG func76 ntmps76 ?_
 (repeat' (first|refine aq fun K hK=>?_|refine ap ?_|(refine hK _ _ ?_;clear hK K)|(refine ao ?_ ?_<;>intro hc<;>try exact jz)|refine cm (Tx) ?_|refine ar ?_|exact jI|(clear hK K)))
 have TX:=hK;clear hK;refine dV (S:=Nat) [(0,1),(6,2),(12,17)] (fun k=>k<=all.length) (fun k=>[(0,.rs 1 (l.length+k) 5 (l.length+k)),(12,rI k)]) (fun k=>⟨[],[(1,.aG 56 5 ((kS l (all.take k)).map bw))]⟩) (fun k=>all.length-k) 0 (Nat.zero_le _) (dS rfl cv) ?_;rintro k hk Kr TR;have I':=zL (all.take k) l;rw[List.length_take,Nat.min_eq_left hk]at I';by_cases O':k<all.length
 ·have hsn:kS l (all.take (k+1))=kJ (nth all k) (kS l (all.take k)):=by rw[tK O',SE]
  have hex:(kS l (all.take (k+1))).map bw=((kS l (all.take k)).take (lH (nth all k) (kS l (all.take k)))++nth all k::(kS l (all.take k)).drop (lH (nth all k) (kS l (all.take k)))).map bw:=by rw[hsn,CG]
  generalize hx:nth all k=x at*;generalize hM:kS l (all.take k)=M at*;have Wa:=Pw x M jB (l.length+k) I'.symm;have Ws:=CP x M;have hpi:=Sw M x (lH x M) Ws jB (l.length+k) I'.symm;have XL:((l.length+k:Nat):Int)=(l.length:Int)+k:=by push_cast;rfl
  by_cases hq:lH x M<l.length+k
  ·have hi:sr x M=(lH x M:Int):=by unfold sr;rw[jP]
   rw[hi]at Wa;generalize lH x M=q at*;have hq0:¬(q:Int)<0:=jB;refine S ?_
   (have W:=jA O' (jA hq0 (hx));repeat' (first|refine aq fun K hK=>?_|refine ap ?_|(refine hK _ _ ?_;clear hK K)|(refine ao ?_ ?_<;>intro hc<;>try exact jz)|refine al 6 ?_|refine cm (Wa) ?_|refine cm (hpi) ?_|refine ar ?_|exact jI|(clear hK K)))
   refine TR _ _ (mV [6] (k+1) jB (by show all.length-(k+1)<all.length-k;omega) rfl Sd ?_ iF);simp only[hex,List.map_append,List.map_cons];rfl
  ·have hi:sr x M=-1:=by unfold sr;rw[jN]
   rw[hi]at Wa;have V':lH x M=l.length+k:=jB;rw[V']at hpi hex;refine S ?_
   (have W:=jA O' hx;repeat' (first|refine aq fun K hK=>?_|refine ap ?_|(refine hK _ _ ?_;clear hK K)|(refine ao ?_ ?_<;>intro hc<;>try exact jz)|refine al 6 ?_|refine cm (Wa) ?_|refine cm (hpi) ?_|refine ar ?_|exact jI|(clear hK K)))
   refine TR _ _ (mV [6] (k+1) jB (by show all.length-(k+1)<all.length-k;omega) rfl Sd ?_ iF);simp only[hex,List.map_append,List.map_cons];rfl
 ·have X0:k=all.length:=jB;subst X0;rw[List.take_length]at I' ⊢;refine S ?_
  (have W:=O';repeat' (first|refine aq fun K hK=>?_|refine ap ?_|(refine hK _ _ ?_;clear hK K)|(refine ao ?_ ?_<;>intro hc<;>try exact jz)|refine TX _ _ ?_|refine ar ?_|exact jI|(clear hK K)))
  refine fA [.tmp 4] ?_;exact cW.row (kS l all) rfl rfl (by simp[I'])
def Oz(a b:List aD)(h1:a.length<=500)(h2:b.length<=500):aB prog 74 [aO bw 5 a,aO bw 5 b] (aO bw 5 (kS a b)):=by
 have h:=DI a b h1 h2;refine bG func74 ntmps74 ?_
 (repeat' (first|refine aq fun K hK=>?_|refine ap ?_|(refine hK _ _ ?_;clear hK K)|(refine ao ?_ ?_<;>intro hc<;>try exact jz)|refine cp (h) ?_|refine ar ?_|exact jI|(clear hK K)))
 (refine aY [.tmp 4] ?_;try simp only[go_sem])
def DN(x:aD):aB prog 68 [.agg (bw x)] (rB (nH x)):=by
 have h:=vm x.v;suffices key:∀b,nH x=b->aB prog 68 [.agg (bw x)] (rB b) from key _ rfl
 intro b hb;unfold nH at hb;generalize lQ x.v=m at*;have hq:(¬1<=(x.name.size:Int)/\True/\True/\True/\True)\/(1<=(x.name.size:Int)/\¬(x.name.size:Int)<=8/\True/\True/\True)\/(1<=(x.name.size:Int)/\(x.name.size:Int)<=8/\¬0<=x.at_/\True/\True)\/(1<=(x.name.size:Int)/\(x.name.size:Int)<=8/\0<=x.at_/\¬x.at_<=200/\True)\/(1<=(x.name.size:Int)/\(x.name.size:Int)<=8/\0<=x.at_/\x.at_<=200/\x.v.ty=4)\/(1<=(x.name.size:Int)/\(x.name.size:Int)<=8/\0<=x.at_/\x.at_<=200/\¬x.v.ty=4):=by
  by_cases c1:1<=(x.name.size:Int)
  rotate_left
  ·exact .inl ⟨c1,trivial,trivial,trivial,trivial⟩
  by_cases c2:(x.name.size:Int)<=8
  rotate_left
  ·exact .inr (.inl ⟨c1,c2,trivial,trivial,trivial⟩)
  by_cases c3:0<=x.at_
  rotate_left
  ·exact .inr (.inr (.inl ⟨c1,c2,c3,trivial,trivial⟩))
  by_cases c4:x.at_<=200
  rotate_left
  ·exact .inr (.inr (.inr (.inl ⟨c1,c2,c3,c4,trivial⟩)))
  by_cases c5:x.v.ty=4
  ·exact .inr (.inr (.inr (.inr (.inl ⟨c1,c2,c3,c4,c5⟩))))
  ·exact .inr (.inr (.inr (.inr (.inr ⟨c1,c2,c3,c4,c5⟩))))
 have n1:(1<=x.name.size)<->1<=(x.name.size:Int):=jB;have n2:(x.name.size<=8)<->(x.name.size:Int)<=8:=jB;rcases hq with⟨c1,c2,c3,c4,c5⟩|⟨c1,c2,c3,c4,c5⟩|⟨c1,c2,c3,c4,c5⟩|⟨c1,c2,c3,c4,c5⟩|⟨c1,c2,c3,c4,c5⟩|⟨c1,c2,c3,c4,c5⟩
 all_goals
  refine bG func68 ntmps68 ?_
  (have W:=jA c1 (jA c2 (jA c3 (jA c4 (c5))));repeat' (first|refine aq fun K hK=>?_|refine ap ?_|(refine hK _ _ ?_;clear hK K)|(refine ao ?_ ?_<;>intro hc<;>try exact jz)|refine bx 3 ?_|(first|refine cg (h) ?_|refine ug (h) ?_)|refine cq (h) ?_|refine⟨rB true,?_⟩|refine ar ?_|exact jI|(clear hK K)))
  (refine aY [.tmp 2] ?_;try simp only[go_sem])
  refine IY ?_;rw[<-hb];simp[n1,n2,c1,c2,c3,c4,c5]
def Au:aD:=⟨0,⟨#[]⟩,⟨0,0,⟨#[]⟩⟩⟩
def JC(y:aD)(t:Int):ab prog 126 [.agg (bw y),.pt 6 0 0 0] [(6,.var 3 [rI t])] (fun r l=>r=rB (decide (t<y.at_))/\l=[(6,.var 3 [rI t])]):=by
 refine aM func126 ntmps126 ?_;refine S ?_
 (repeat' (first|refine aq fun K hK=>?_|refine ap ?_|(refine hK _ _ ?_;clear hK K)|(refine ao ?_ ?_<;>intro hc<;>try exact jz)|refine bx 9 ?_|refine ar ?_|exact jI|(clear hK K)))
 (refine aY [.tmp 3] ?_;try simp only[go_sem])
def N9(t:Int)(L:List aD)(hL:L.length<=1000)(n:Nat)(hn:n=L.length):ab prog 129 [.rs 1 n 5 n,.dP 126 [.pt 6 0 0 0]] [(1,.aG 56 5 (L.map bw)),(6,.var 3 [rI t])] (fun r l=>r=rI (rQ t L)/\l=[(1,.aG 56 5 (L.map bw)),(6,.var 3 [rI t])]):=by
 suffices key:∀z,rQ t L=z->ab prog 129 [.rs 1 n 5 n,.dP 126 [.pt 6 0 0 0]] [(1,.aG 56 5 (L.map bw)),(6,.var 3 [rI t])] (fun r l=>r=rI z/\l=[(1,.aG 56 5 (L.map bw)),(6,.var 3 [rI t])]) from key _ rfl
 intro z hz;have Vv:(L.map bw).length=n:=by rw[List.length_map,hn]
 refine aM func129 ntmps129 ?_;refine S ?_
 (repeat' (first|refine aq fun K hK=>?_|refine ap ?_|(refine hK _ _ ?_;clear hK K)|(refine ao ?_ ?_<;>intro hc<;>try exact jz)|refine ar ?_|exact jI|(clear hK K)))
 have TX:=hK;clear hK;refine dV (S:=Nat) [(4,2),(8,11)] (fun k=>k<=n/\∀j,j<k->¬t<(nth L j).at_) (fun k=>[(8,rI k)]) (fun _=>⟨[1,6],[(1,.aG 56 5 (L.map bw)),(6,.var 3 [rI t])]⟩) (fun k=>n-k) 0 ⟨Nat.zero_le _,fun j h=>jB⟩ (dS rfl cv) ?_;rintro k ⟨hk,TS⟩ Kr TR;by_cases O':k<n
 ·have T0:=JC (nth L k) t;have Vf:k<L.length:=jB;by_cases c:t<(nth L k).at_
  ·rw[decide_eq_true c]at T0;have hp:=Jz TS Vf c;have:z=(k:Int):=by rw[<-hz];unfold rQ;rw[hp,if_pos Vf]
   subst this;refine S ?_
   (have W:=jA O' (jA Vv (Vf));repeat' (first|refine aq fun K hK=>?_|refine ap ?_|(refine hK _ _ ?_;clear hK K)|(refine ao ?_ ?_<;>intro hc<;>try exact jz)|(refine cl T0 ?_)|refine ar ?_|exact jI|(clear hK K)))
   (refine aY [.tmp 4] ?_;try simp only[go_sem])
  ·rw[decide_eq_false c]at T0;refine S ?_
   (have W:=jA O' (jA Vv (Vf));repeat' (first|refine aq fun K hK=>?_|refine ap ?_|(refine hK _ _ ?_;clear hK K)|(refine ao ?_ ?_<;>intro hc<;>try exact jz)|(refine cl T0 ?_)|refine ar ?_|exact jI|(clear hK K)))
   exact TR _ _ (eu (k+1) ⟨jB,fun j hj=>by
    by_cases e:j<k
    ·exact TS j e
    ·rw[show j=k from jB];exact c⟩ (by show n-(k+1)<n-k;omega) rfl cv)
 ·have hp:=Ey (t:=t) (L:=L) fun j hj=>TS j jB
  have:z=-1:=by rw[<-hz];unfold rQ;rw[hp,if_neg (Nat.lt_irrefl _)]
  subst this;refine S ?_
  (have W:=jA O' Vv;repeat' (first|refine aq fun K hK=>?_|refine ap ?_|(refine hK _ _ ?_;clear hK K)|(refine ao ?_ ?_<;>intro hc<;>try exact jz)|refine TX _ _ ?_|refine ar ?_|exact jI|(clear hK K)))
  (refine aY [.tmp 4] ?_;try simp only[go_sem])
def PE(t:Int)(L:List aD)(hL:L.length<=1000)(n:Nat)(hn:n=L.length):ab prog 125 [.rs 1 n 5 n,.dP 126 [.pt 6 0 0 0]] [(1,.aG 56 5 (L.map bw)),(6,.var 3 [rI t])] (fun r l=>r=.rs 1 n 5 (dT L t).length/\l=[(1,.aG 56 5 ((dT L t++List.replicate (n-(dT L t).length) Au).map bw)),(6,.var 3 [rI t])]):=by
 have Wa:=N9 t L hL n hn;have Zf:=H7 t L;have Vv:(L.map bw).length=n:=by rw[List.length_map,hn]
 by_cases hq:iU t L<L.length
 rotate_left
 ·have hi:rQ t L=-1:=by unfold rQ;rw[if_neg hq]
  have he:dT L t=L:=by have:=BR t L;rwa [show iU t L=L.length from jB,List.take_length]at this
  rw[hi]at Wa;rw[he,<-hn,Nat.sub_self];simp only[List.replicate_zero,List.append_nil];refine aM func125 ntmps125 ?_;refine S ?_
  (repeat' (first|refine aq fun K hK=>?_|refine ap ?_|(refine hK _ _ ?_;clear hK K)|(refine ao ?_ ?_<;>intro hc<;>try exact jz)|refine cm (Wa) ?_|refine ar ?_|exact jI|(clear hK K)))
  (refine aY [.tmp 4] ?_;try simp only[go_sem])
 ·have hi:rQ t L=(iU t L:Int):=by unfold rQ;rw[if_pos hq]
  have hE0:=BR t L;have Ut:=HW hq;rw[hi]at Wa;have V':¬(iU t L:Int)=-1:=jB;have hE1:dT (L.take (iU t L+1)) t=L.take (iU t L):=by rw[tK hq,GQ,jN,hE0]
  have YM:L.take (iU t L)++[nth L (iU t L)]++L.drop (iU t L+1)=L:=by rw[<-tK hq,List.take_append_drop]
  generalize iU t L=q at*;have WC:(L.take q).length=q:=by rw[List.length_take];omega
  refine aM func125 ntmps125 ?_;refine S ?_
  (have W:=V';repeat' (first|refine aq fun K hK=>?_|refine ap ?_|(refine hK _ _ ?_;clear hK K)|(refine ao ?_ ?_<;>intro hc<;>try exact jz)|refine cm (Wa) ?_|refine ar ?_|exact jI|(clear hK K)))
  have TX:=hK;clear hK;refine dV (S:=Nat×List aD) [(5,3),(16,20)] (fun s=>s.1<=n/\(dT (L.take s.1) t).length+s.2.length=s.1/\0<s.2.length) (fun s=>[(5,rI (dT (L.take s.1) t).length),(6,rI s.1)]) (fun s=>⟨[1,6],[(1,.aG 56 5 ((dT (L.take s.1) t++s.2++L.drop s.1).map bw)),(6,.var 3 [rI t])]⟩) (fun s=>n-s.1) (q+1,[nth L q]) ⟨by show q+1<=n;omega,by show(dT (L.take (q+1)) t).length+1=q+1;rw[hE1,WC],Nat.zero_lt_succ 0⟩ ?_ ?_
  ·show dL _ _ (mC [(5,rI (dT (L.take (q+1)) t).length),(6,rI (q+1:Nat))] _) ⟨[1,6],[(1,.aG 56 5 ((dT (L.take (q+1)) t++[nth L q]++L.drop (q+1)).map bw)),(6,.var 3 [rI t])]⟩;rw[hE1,YM,WC];exact dS rfl cv
  rintro⟨j,J⟩ ⟨hj,I',hJ⟩ Kr TR;have hj:j<=n:=hj;have I':(dT (L.take j) t).length+J.length=j:=I';have hJ:0<J.length:=hJ;by_cases O':j<n
  ·have XA:j<L.length:=jB;have VK:=tK XA;have X3:dT (L.take (j+1)) t=if(nth L j).at_<=t then dT (L.take j) t++[nth L j]else dT (L.take j) t:=by rw[VK,GQ]
   have XC:L.drop j=nth L j::L.drop (j+1):=by rw[fP XA];exact List.drop_eq_getElem_cons XA
   have T0:=JC (nth L j) t;generalize hx:nth L j=x at*;generalize hE:dT (L.take j) t=E at*;have Yy:nth (E++J++L.drop j) j=x:=by rw[XC];unfold nth;rw[List.getD_eq_getElem?_getD,List.getElem?_append_right (by rw[List.length_append];omega),List.length_append,I',Nat.sub_self];rfl
   have Vy:(E++J++L.drop j).length=n:=by rw[List.length_append,List.length_append,List.length_drop];omega
   generalize hR:E++J++L.drop j=R at*;by_cases c:t<x.at_
   ·rw[decide_eq_true c]at T0;rw[jN]at X3;refine S ?_
    (have W:=jA O' (jA Yy (Vy));repeat' (first|refine aq fun K hK=>?_|refine ap ?_|(refine hK _ _ ?_;clear hK K)|(refine ao ?_ ?_<;>intro hc<;>try exact jz)|refine al 7 ?_|(refine cl T0 ?_)|refine ar ?_|exact jI|(clear hK K)))
    have Uz:dT (L.take (j+1)) t++(J++[x])++L.drop (j+1)=R:=by rw[X3,<-hR,XC];simp
    refine TR _ _ (mV [7] (j+1,J++[x]) ⟨by show j+1<=n;omega,by show(dT (L.take (j+1)) t).length+(J++[x]).length=j+1;rw[X3,List.length_append];simp only[List.length_cons,List.length_nil];omega,by show 0<(J++[x]).length;rw[List.length_append];omega⟩ (by show n-(j+1)<n-j;omega) rfl Sd ?_ ?_)
    ·simp only[Uz];rfl
    ·simp only[X3];exact iF
   ·rw[decide_eq_false c]at T0;rw[jP]at X3;refine S ?_
    (have W:=jA O' (jA Yy (Vy));repeat' (first|refine aq fun K hK=>?_|refine ap ?_|(refine hK _ _ ?_;clear hK K)|(refine ao ?_ ?_<;>intro hc<;>try exact jz)|refine al 7 ?_|(refine cl T0 ?_)|refine ar ?_|exact jI|(clear hK K)))
    have Ty:(R.map bw).set E.length (bw x++List.drop 5 (bw (nth R E.length)))=(R.set E.length x).map bw:=(List.map_set (f:=bw)).symm;have Uz:dT (L.take (j+1)) t++(J.drop 1++[x])++L.drop (j+1)=R.set E.length x:=by
     rw[X3,<-hR,XC];obtain⟨y,J',rfl⟩:∃y J',J=y::J':=by
      cases J with
      |nil=>simp at hJ
      |cons y J'=>exact⟨y,J',rfl⟩
     simp
    rw[Ty];refine TR _ _ (mV [7] (j+1,J.drop 1++[x]) ⟨by show j+1<=n;omega,by show(dT (L.take (j+1)) t).length+(J.drop 1++[x]).length=j+1;rw[X3,List.length_append,List.length_append,List.length_drop];simp only[List.length_cons,List.length_nil];omega,by show 0<(J.drop 1++[x]).length;rw[List.length_append];simp only[List.length_cons];omega⟩ (by show n-(j+1)<n-j;omega) rfl Sd ?_ ?_)
    ·simp only[Uz];rfl
    ·simp only[X3,List.length_append,List.length_cons,List.length_nil];exact iF
  ·have hje:j=n:=jB;subst hje;have hz:((dT (L.take j) t++J++L.drop j).map bw).length=j:=by rw[List.length_map,List.length_append,List.length_append,List.length_drop];omega
   rw[hn,List.take_length,<-hn]at I';rw[hn,List.take_length,List.drop_length,List.append_nil,<-hn]at hz ⊢;have WK:du ((dT L t++J).map bw) (dT L t).length (List.replicate (j-(dT L t).length) (s9.map AV.raw))=(dT L t++List.replicate (j-(dT L t).length) Au).map bw:=by unfold du;rw[List.map_append,List.map_append,List.map_replicate];have h1:=List.take_left (l₁:=(dT L t).map bw) (l₂:=J.map bw);rw[List.length_map]at h1;rw[h1,List.length_replicate,List.drop_of_length_le (by rw[List.length_append,List.length_map,List.length_map];omega),List.append_nil];rfl
   generalize dT L t=E at*;simp only[List.map_append]at hz WK;refine S ?_
   (have W:=jA O' hz;repeat' (first|refine aq fun K hK=>?_|refine ap ?_|(refine hK _ _ ?_;clear hK K)|(refine ao ?_ ?_<;>intro hc<;>try exact jz)|(refine DS (zs:=s9) rfl hz.symm jG jG jG rfl jC rfl jB ?_;refine S ?_)|refine TX _ _ ?_|refine ar ?_|exact jI|(clear hK K)))
   rw[WK]
   (refine aY [.tmp 4] ?_;try simp only[go_sem])
def GV(l:List aD)(t:Int)(hl:l.length<=1000):aB prog 69 [aO bw 5 l,rI t] (aO bw 5 (dT l t)):=by
 have Tx:=Bb l hl 1;have hd:=PE t l hl _ rfl;have VF:=Ch l t;refine bG func69 ntmps69 ?_
 (repeat' (first|refine aq fun K hK=>?_|refine ap ?_|(refine hK _ _ ?_;clear hK K)|(refine ao ?_ ?_<;>intro hc<;>try exact jz)|refine bx 6 ?_|refine cm (Tx) ?_|refine cm (hd) ?_|refine ar ?_|exact jI|(clear hK K)))
 refine fA [.tmp 4] ?_;exact cW.pN (dT l t) (List.replicate (l.length-(dT l t).length) Au) rfl (by rw[List.map_append];rfl) (by rw[List.length_replicate];omega) rfl
end Go.Proofs.YtjpcgmjaipfgdaaGreatDoor