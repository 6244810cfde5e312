/- Lemmas. No conditions. -/
import Derived.Test.YtfkgcobaheegbaaGreatDoorGdTm
import Derived.Test.YtfkgcobaheegbaaGreatDoorLxT
set_option linter.all false
set_option maxHeartbeats 4000000
set_option maxRecDepth 10000
namespace Go.Proofs.YtfkgcobaheegbaaGreatDoor
open Go Go.Gd Tryz
abbrev rI(n:Int):AV:=.raw (.int .i64 n)
abbrev rU(n:Int):AV:=.raw (.int .u8 n)
abbrev rS(s:ByteArray):AV:=.raw (.string s)
abbrev rB(b:Bool):AV:=.raw (.bool b)
theorem vS(n:Int):dV prog 203 [rU n] (rB (jd n)):=by
 refine eQ func203 ntmps203 ?_
 (repeat' (first|refine aA fun K hK=>?_|refine aC ?_|(refine hK _ _ ?_;clear hK K)|(refine aB ?_ ?_<;>intro hc<;>try exact jz)|refine az ?_|exact jI|(clear hK K)))
 (refine bV [.tmp 2] ?_ ?_<;>(try simp only[go_sem]))
 rfl
theorem BE(n:Int):dV prog 205 [rU n] (rB (wD n)):=by
 refine eQ func205 ntmps205 ?_
 (repeat' (first|refine aA fun K hK=>?_|refine aC ?_|(refine hK _ _ ?_;clear hK K)|(refine aB ?_ ?_<;>intro hc<;>try exact jz)|refine az ?_|exact jI|(clear hK K)))
 (refine bV [.tmp 2] ?_ ?_<;>(try simp only[go_sem]))
 rfl
theorem On(s:ByteArray):dV prog 204 [rS s] (rB (wB s)):=by
 refine eQ func204 ntmps204 ?_
 (repeat' (first|refine aA fun K hK=>?_|refine aC ?_|(refine hK _ _ ?_;clear hK K)|(refine aB ?_ ?_<;>intro hc<;>try exact jz)|refine az ?_|exact jI|(clear hK K)))
 (refine bV [.tmp 2] ?_ ?_<;>(try simp only[go_sem]))
 rfl
theorem OK(s:ByteArray)(at_:Int)(hs:s.size<=1000000):dV prog 209 [rS s,rI at_] (rI (oq s (min s.size at_.toNat))):=by
 refine eQ func209 ntmps209 ?_
 (repeat' (first|refine aA fun K hK=>?_|refine aC ?_|(refine hK _ _ ?_;clear hK K)|(refine aB ?_ ?_<;>intro hc<;>try exact jz)|refine az ?_|exact jI|(clear hK K)))
 have hKo:=hK;clear hK;refine fm (S:=Nat) [(5,19)] (fun k=>k<=s.size/\k<=at_.toNat) (fun k=>[(5,rI (oq s k)),(6,rI k)]) (fun _=>⟨[],[]⟩) (fun k=>s.size-k) 0 jB (fi rfl (by simp only[go_sem,jt,Nat.reduceAdd,AV.raw.injEq,Value.int.injEq,Value.slice.injEq,Value.pointer.injEq,AV.rs.injEq,oq];try omega)) ?_;rintro k ⟨hk1,hk2⟩ Kr hKr;have hb:=GM s k
 (refine S ?_;try exact jI)
 (repeat' (first|refine aA fun K hK=>?_|refine aC ?_|(refine hK _ _ ?_;clear hK K)|(refine aB ?_ ?_<;>intro hc<;>try exact jz)|refine hKo _ _ ?_|refine az ?_|exact jI|(clear hK K)))
 ·refine hKr _ _ (fw (k+1) jB jJ rfl (by simp only[oq,if_pos hc];exact cX))
 ·refine hKr _ _ (fw (k+1) jB jJ rfl (by simp only[oq,if_neg hc];exact cX))
 ·(refine bV [.tmp 4] ?_ ?_<;>(try simp only[go_sem]))
  rw[show min s.size at_.toNat=k from jB]
variable{s:ByteArray}
theorem Pu(h:∀j,j<fI.length->nth fI j≠s):uD s=false:=by
 unfold uD;rw[List.any_eq_false];intro x hm;obtain⟨j,hj,rfl⟩:=List.getElem_of_mem hm;have:=h j hj;rw[dN hj]at this;simp[this]
theorem NB{k:Nat}(hk:k<fI.length)(h:nth fI k=s):uD s=true:=by
 unfold uD;rw[List.any_eq_true];exact⟨fI[k],List.getElem_mem hk,by rw[dN hk]at h;simp[h]⟩
theorem Jz(s:ByteArray):dV prog 206 [rS s] (rB (uD s)):=by
 refine eQ func206 ntmps206 ?_
 (repeat' (first|refine aA fun K hK=>?_|refine aC ?_|(refine hK _ _ ?_;clear hK K)|(refine aB ?_ ?_<;>intro hc<;>try exact jz)|refine az ?_|exact jI|(clear hK K)))
 have hKo:=hK;clear hK;refine fm (S:=Nat) [(2,1),(4,1),(6,12)] (fun k=>k<=16/\∀j,j<k->nth fI j≠s) (fun k=>[(3,.sl true 1 (fI.map eS) []),(4,rI k)]) (fun _=>⟨[],[]⟩) (fun k=>16-k) 0 ⟨jB,fun j h=>jB⟩ (fi rfl (by(repeat' (first|exact jI|exact Or.inr rfl|exact Or.inl rfl|refine jA ?_ ?_)))) ?_;rintro k ⟨hk1,hk2⟩ Kr hKr;have hl:=L9
 (refine S ?_;try exact jI)
 (repeat' (first|refine aA fun K hK=>?_|refine aC ?_|(refine hK _ _ ?_;clear hK K)|(refine aB ?_ ?_<;>intro hc<;>try exact jz)|refine hKo _ _ ?_|refine az ?_|exact jI|(clear hK K)))
 ·(refine bV [.tmp 2] ?_ ?_<;>(try simp only[go_sem]))
  rw[NB jB hc]
 ·refine hKr _ _ (fw (k+1) ⟨jB,fun j hj=>?_⟩ jJ rfl cX)
  by_cases e:j=k
  ·subst e;exact hc
  ·exact hk2 j jB
 ·(refine bV [.tmp 2] ?_ ?_<;>(try simp only[go_sem]))
  rw[Pu fun j hj=>hk2 j jB]
theorem Ft(s:ByteArray)(i:Nat)(hs:s.size<=1000000)(hi:i<=s.size):dV prog 142 [rS s,rI i] (rI (og s i:Nat)):=by
 refine eQ func142 ntmps142 ?_
 (repeat' (first|refine aA fun K hK=>?_|refine aC ?_|(refine hK _ _ ?_;clear hK K)|(refine aB ?_ ?_<;>intro hc<;>try exact jz)|refine az ?_|exact jI|(clear hK K)))
 have hKo:=hK;clear hK;refine fm (S:=Nat) [(1,1),(4,54)] (fun k=>k<=s.size/\og s k=og s i) (fun k=>[(1,rI k)]) (fun _=>⟨[],[]⟩) (fun k=>s.size-k) i ⟨hi,rfl⟩ (fi rfl cX) ?_;rintro k ⟨hk1,hk2⟩ Kr hKr
 (refine S ?_;try exact jI)
 (repeat' (first|refine aA fun K hK=>?_|refine aC ?_|(refine hK _ _ ?_;clear hK K)|(refine aB ?_ ?_<;>intro hc<;>try exact jz)|refine hKo _ _ ?_|refine az ?_|exact jI|(clear hK K)))
 ·have hst:lN s k=some (k+1):=by
   unfold lN;rw[jP,if_pos];simp[xP];omega
  refine hKr _ _ (fw (k+1) ⟨jB,by rw[<-hk2,EK hst]⟩ jJ rfl cX)
 ·have hst:lN s k=some (ii rE s k):=by
   unfold lN;rw[jP,if_neg (by simp[xP];omega),if_pos];simp[yP];exact⟨⟨hc.1.1,jB⟩,hc.2⟩
  have hlt:=xN hst;have hKi:=hK;clear hK;refine fm (S:=Nat) [(1,1),(45,12)] (fun m=>k<=m/\m<=s.size/\∀j,k<=j->j<m->rE (ec s j)=true) (fun m=>[(1,rI m)]) (fun _=>⟨[],[]⟩) (fun m=>s.size-m) k ⟨jB,jB,fun j h1 h2=>jB⟩ (fi rfl cX) ?_;rintro m ⟨hm1,hm2,hm3⟩ Kj hKj
  (refine S ?_;try exact jI)
  (repeat' (first|refine aA fun K hK=>?_|refine aC ?_|(refine hK _ _ ?_;clear hK K)|(refine aB ?_ ?_<;>intro hc<;>try exact jz)|refine hKi _ _ ?_|refine az ?_|exact jI|(clear hK K)))
  ·refine hKj _ _ (fw (m+1) ⟨jB,jB,fun j h1 h2=>?_⟩ jJ rfl cX)
   by_cases e:j=m
   ·subst e;simp only[rE,decide_eq_true_eq];exact hc.2
   ·exact hm3 j h1 jB
  ·have e:ii rE s k=m:=xa (by simp only[rE,decide_eq_true_eq];omega) hm1 hm2 hm3
   rw[e]at hst hlt;refine hKr _ _ (fw m ⟨jB,by rw[<-hk2,EK hst]⟩ jJ rfl cX)
 ·(refine bV [.tmp 4] ?_ ?_<;>(try simp only[go_sem]))
  rw[<-hk2,Gp];unfold lN;rw[jP,if_neg (by simp[xP];omega),if_neg];simp[yP];omega
 ·(refine bV [.tmp 4] ?_ ?_<;>(try simp only[go_sem]))
  rw[<-hk2,Gp];unfold lN;rw[jN]
theorem IX(s:ByteArray)(a:Nat)(hs:s.size<=1000000)(ha:a<s.size):dV prog 207 [rS s,rI a] (.bg [rS (nR s a).1,rI (nR s a).2.1,rI (nR s a).2.2]):=by
 refine eQ func207 ntmps207 ?_
 (repeat' (first|refine aA fun K hK=>?_|refine aC ?_|(refine hK _ _ ?_;clear hK K)|(refine aB ?_ ?_<;>intro hc<;>try exact jz)|refine az ?_|exact jI|(clear hK K)))
 have hKo:=hK;clear hK;refine fm (S:=Nat) [(7,1),(10,24)] (fun m=>a+1<=m/\m<=s.size/\∀j,a+1<=j->j<m->tR (ec s j)=true) (fun m=>[(7,rI m)]) (fun _=>⟨[],[]⟩) (fun m=>s.size-m) (a+1) ⟨jB,jB,fun j h1 h2=>jB⟩ (fi rfl cX) ?_;rintro m ⟨hm1,hm2,hm3⟩ Kr hKr
 (refine S ?_;try exact jI)
 (repeat' (first|refine aA fun K hK=>?_|refine aC ?_|(refine hK _ _ ?_;clear hK K)|(refine aB ?_ ?_<;>intro hc<;>try exact jz)|refine hKo _ _ ?_|refine az ?_|exact jI|(clear hK K)))
 ·refine hKr _ _ (fw (m+1) ⟨jB,jB,fun j h1 h2=>?_⟩ jJ rfl cX)
  by_cases e:j=m
  ·subst e;simp only[tR,Bool.and_eq_true,decide_eq_true_eq];exact⟨⟨hc.1.1.2,hc.1.2⟩,hc.2⟩
  ·exact hm3 j h1 jB
 all_goals have e:ii tR s (a+1)=m:=xa (by simp only[tR,Bool.and_eq_true,decide_eq_true_eq];omega) hm1 hm2 hm3
 ·(refine bV [.tmp 4,.tmp 5,.tmp 6] ?_ ?_<;>(try simp only[go_sem]))
  simp only[nR,e];rw[jN]
 ·(refine bV [.tmp 4,.tmp 5,.tmp 6] ?_ ?_<;>(try simp only[go_sem]))
  simp only[nR,e];rw[jP,jP]
 ·(refine bV [.tmp 4,.tmp 5,.tmp 6] ?_ ?_<;>(try simp only[go_sem]))
  simp only[nR,e];rw[jP,jN]
theorem NT:iK.length=5:=rfl
theorem Qb(s:ByteArray)(hs:0<s.size)(hs2:s.size<=1000000):dV prog 208 [rS s] (rS (nw s)):=by
 refine eQ func208 ntmps208 ?_
 (repeat' (first|refine aA fun K hK=>?_|refine aC ?_|(refine hK _ _ ?_;clear hK K)|(refine aB ?_ ?_<;>intro hc<;>try exact jz)|refine az ?_|exact jI|(clear hK K)))
 have hKo:=hK;clear hK;refine fm (S:=Nat) [(2,1),(4,1),(8,22)] (fun k=>k<=5/\∀j,j<k->pN s (nth iK j)=false) (fun k=>[(3,.sl true 1 (iK.map eS) []),(4,rI k)]) (fun _=>⟨[],[]⟩) (fun k=>5-k) 0 ⟨jB,fun j h=>jB⟩ (fi rfl (by(repeat' (first|exact jI|exact Or.inr rfl|exact Or.inl rfl|refine jA ?_ ?_)))) ?_;rintro k ⟨hk1,hk2⟩ Kr hKr;have hl:=NT
 (refine S ?_;try exact jI)
 (repeat' (first|refine aA fun K hK=>?_|refine aC ?_|(with_reducible refine gR 5 ?_);refine dE 5 [0,1,2,3,4,5,6,7,8,9,10,11] mixed ?_|(refine hK _ _ ?_;clear hK K)|(refine aB ?_ ?_<;>intro hc<;>try exact jz)|refine hKo _ _ ?_|refine az ?_|exact jI|(clear hK K)))
 ·(refine bV [.tmp 2] ?_ ?_<;>(try simp only[go_sem]))
  have:iK.find? (pN s)=some (nth iK k):=yz hk2 jB (by simp only[pN,Bool.and_eq_true,decide_eq_true_eq];exact hc);simp only[nw,this]
 ·refine hKr _ _ (fw (k+1) ⟨jB,fun j hj=>?_⟩ jJ rfl cX)
  by_cases e:j=k
  ·subst e;simp only[pN,Bool.and_eq_false_iff,decide_eq_false_iff_not,Int.not_le];exact hc
  ·exact hk2 j jB
 ·have h2:iK.find? (pN s)=none:=Bu fun j hj=>hk2 j jB
  have hKo:=hK;clear hK;have hos:gV.size=16:=rfl;refine fm (S:=Nat) [(2,1),(6,1),(30,17)] (fun k=>k<=16/\∀j,j<k->decide (ec s 0=ec gV (nth (List.range 16) j:Nat))=false) (fun k=>[(5,rS gV),(6,rI k)]) (fun _=>⟨[],[]⟩) (fun k=>16-k) 0 ⟨jB,fun j h=>jB⟩ (fi rfl (by(repeat' (first|exact jI|exact Or.inr rfl|exact Or.inl rfl|refine jA ?_ ?_)))) ?_;rintro m ⟨hm1,hm2⟩ Kj hKj
  (refine S ?_;try exact jI)
  (repeat' (first|refine aA fun K hK=>?_|refine aC ?_|(with_reducible refine gR 11 ?_);refine dE 11 [0,1,2,3,4,5] mixed ?_|(refine hK _ _ ?_;clear hK K)|(refine aB ?_ ?_<;>intro hc<;>try exact jz)|refine hKo _ _ ?_|refine az ?_|exact jI|(clear hK K)))
  ·(refine bV [.tmp 2] ?_ ?_<;>(try simp only[go_sem]))
   have h3:(List.range 16).find? (fun k:Nat=>decide (ec s 0=ec gV (k:Nat)))=some (nth (List.range 16) m):=yz hm2 jF (by rw[B1 jB];simpa using hc);simp only[nw,h2,h3];rw[B1 jB]
  ·refine hKj _ _ (fw (m+1) ⟨jB,fun j hj=>?_⟩ jJ rfl cX)
   by_cases e:j=m
   ·subst e;rw[B1 jB];simpa using hc
   ·exact hm2 j jB
  ·(refine bV [.tmp 2] ?_ ?_<;>(try simp only[go_sem]))
   have h3:(List.range 16).find? (fun k:Nat=>decide (ec s 0=ec gV (k:Nat)))=none:=Bu fun j hj=>hm2 j (by simp at hj;omega)
   simp only[nw,h2,h3]
def pQ(t:cd×Int×Int):AV:=.bg [.agg (lW t.1),rI t.2.1,rI t.2.2]
theorem Pq(s:ByteArray)(a:Nat)(hs:s.size<=1000000)(ha:a<s.size):dV prog 143 [rS s,rI a] (pQ (gB s a)):=by
 have hex:(s.extract a s.size).size=s.size-a:=by rw[ByteArray.size_extract];omega
 have hsz:=IQ (s.extract a s.size);refine eQ func143 ntmps143 ?_
 (repeat' (first|refine aA fun K hK=>?_|refine aC ?_|(refine hK _ _ ?_;clear hK K)|(refine aB ?_ ?_<;>intro hc<;>try exact jz)|refine cp (vS _) ?_|refine cp (BE _) ?_|refine cp (IX s a hs ha) ?_|refine cp (Qb _ jB jB) ?_|refine az ?_|exact jI|(clear hK K)))
 ·have hKo:=hK;clear hK
  refine fm (S:=Nat) [(8,1),(20,12)] (fun m=>a<=m/\m<=s.size/\∀j,a<=j->j<m->jd (ec s j)=true) (fun m=>[(8,rI m)]) (fun _=>⟨[],[(0,.var 216 (lW tV))]⟩) (fun m=>s.size-m) a ⟨jB,jB,fun j h1 h2=>jB⟩ (fi rfl cX) ?_;rintro m ⟨hm1,hm2,hm3⟩ Kr hKr
  (refine S ?_;try exact jI)
  (repeat' (first|refine aA fun K hK=>?_|refine aC ?_|(refine hK _ _ ?_;clear hK K)|(refine aB ?_ ?_<;>intro hc<;>try exact jz)|(first|refine cg (vS _) ?_|refine yl (vS _) ?_)|refine hKo _ _ ?_|refine az ?_|exact jI|(clear hK K)))
  ·refine hKr _ _ (fw (m+1) ⟨jB,jB,fun j h1 h2=>?_⟩ jJ rfl cX)
   by_cases e:j=m
   ·subst e;exact hc.2
   ·exact hm3 j h1 jB
  ·have hd:jd (ec s a)=true:=by assumption
   have e:ii jd s a=m:=xa (by rintro⟨h1,h2⟩;rcases hc with h|h;omega;rw[h2]at h;cases h) hm1 hm2 hm3
   (repeat' (first|refine aA fun K hK=>?_|refine aC ?_|(refine hK _ _ ?_;clear hK K)|(refine aB ?_ ?_<;>intro hc<;>try exact jz)|refine cp (On _) ?_|refine az ?_|exact jI|(clear hK K)))
   ·(refine bH [.cell 4 216,.tmp 5,.tmp 6] ?_;try simp only[go_sem])
    simp only[gB,hd,if_true,e,if_neg,hc,Bool.false_eq_true,if_false,pQ,tV];rfl
   ·(refine bH [.cell 4 216,.tmp 5,.tmp 6] ?_;try simp only[go_sem])
    simp only[gB,hd,if_true,e,hc,pQ];rfl
 ·have hKo:=hK;clear hK
  have hnd:jd (ec s a)=false:=by assumption
  have hle:wD (ec s a)=true:=by assumption
  refine fm (S:=Nat) [(8,1),(49,24)] (fun m=>a<=m/\m<=s.size/\∀j,a<=j->j<m->oS (ec s j)=true) (fun m=>[(8,rI m)]) (fun _=>⟨[],[(0,.var 216 (lW tV))]⟩) (fun m=>s.size-m) a ⟨jB,jB,fun j h1 h2=>jB⟩ (fi rfl cX) ?_;rintro m ⟨hm1,hm2,hm3⟩ Kr hKr;have hexm:(s.extract a m).size=m-a:=by rw[ByteArray.size_extract];omega
  (refine S ?_;try exact jI)
  (repeat' (first|refine aA fun K hK=>?_|refine aC ?_|(refine hK _ _ ?_;clear hK K)|(refine aB ?_ ?_<;>intro hc<;>try exact jz)|(first|refine cg (vS _) ?_|refine yl (vS _) ?_)|(first|refine cg (BE _) ?_|refine yl (BE _) ?_)|refine cp (Jz _) ?_|refine hKo _ _ ?_|refine az ?_|exact jI|(clear hK K)))
  ·refine hKr _ _ (fw (m+1) ⟨jB,jB,fun j h1 h2=>?_⟩ jJ rfl cX)
   by_cases e:j=m
   ·subst e;simp only[oS,Bool.or_eq_true,decide_eq_true_eq];exact hc.2
   ·exact hm3 j h1 jB
  all_goals
   have hcc:(s.size:Int)<=m\/(wD (ec s m)=false/\jd (ec s m)=false)/\¬ec s m=95:=by assumption
   have e:ii oS s a=m:=xa (by
    simp only[oS,Bool.or_eq_true,decide_eq_true_eq];rintro⟨h1,h2⟩;rcases hcc with h|⟨⟨h3,h4⟩,h5⟩
    ·omega
    ·rcases h2 with(h|h)|h
     ·rw[h]at h3;exact Bool.noConfusion h3
     ·rw[h]at h4;exact Bool.noConfusion h4
     ·exact h5 h) hm1 hm2 hm3
  ·(refine bH [.cell 4 216,.tmp 5,.tmp 6] ?_;try simp only[go_sem])
   simp only[gB,hnd,hle,e,hc,Bool.false_eq_true,if_false,if_true,pQ];rfl
  ·(refine bH [.cell 4 216,.tmp 5,.tmp 6] ?_;try simp only[go_sem])
   simp only[gB,hnd,hle,e, *,Bool.false_eq_true,if_false,if_true,pQ];rw[jP];rfl
  ·(refine bH [.cell 4 216,.tmp 5,.tmp 6] ?_;try simp only[go_sem])
   simp only[gB,hnd,hle,e, *,Bool.false_eq_true,if_false,if_true,pQ];rw[jN];rfl
 ·(refine bH [.cell 4 216,.tmp 5,.tmp 6] ?_;try simp only[go_sem])
  simp only[gB, *,Bool.false_eq_true,if_false,if_true,pQ];rfl
 ·(refine bH [.cell 4 216,.tmp 5,.tmp 6] ?_;try simp only[go_sem])
  simp only[gB, *,Bool.false_eq_true,if_false,if_true,pQ];rfl
 ·(refine bH [.cell 4 216,.tmp 5,.tmp 6] ?_;try simp only[go_sem])
  simp only[gB, *,Bool.false_eq_true,if_false,pQ];rfl
attribute [go_sem] pQ
theorem F1(s:ByteArray)(hs:s.size<=1000000):dV prog 93 [rS s] (.bg [bt lW 3 (j4 s).1,rI (j4 s).2.1,rI (j4 s).2.2]):=by
 refine eQ func93 ntmps93 ?_
 (repeat' (first|refine aA fun K hK=>?_|refine aC ?_|(refine hK _ _ ?_;clear hK K)|(refine aB ?_ ?_<;>intro hc<;>try exact jz)|refine cp (Ft s 0 hs (Nat.zero_le _)) ?_|refine az ?_|exact jI|(clear hK K)))
 ·refine lG [.tmp 2,.tmp 3,.tmp 4] ?_
  simp only[j4,if_pos hc];refine bZ.bg ?_;exact kY
 ·have hKo:=hK;clear hK
  have h0:=ug (s:=s) (i:=0) (Nat.zero_le _);refine fm (S:=Nat×List cd) [(2,8),(16,22)] (fun p=>p.1<=s.size/\p.2.length<=p.1/\uu s p.1 p.2=j4 s) (fun p=>[(5,.rs 0 p.2.length 3 p.2.length),(6,rI p.1)]) (fun p=>⟨[],[(0,.aO 216 3 (p.2.map lW))]⟩) (fun p=>s.size-p.1) (og s 0,[]) ⟨h0.2,Nat.zero_le _,by simp only[j4];rw[jN]⟩ (fi rfl cX) ?_;rintro⟨k,ts⟩ ⟨hk1,hk2,hk3⟩ Kr hKr;simp only at hk1 hk2 hk3
  (refine S ?_;try exact jI)
  by_cases hk:k<s.size
  ·have hend:=xB (s:=s) (a:=k) hk
   (repeat' (first|refine aA fun K hK=>?_|refine aC ?_|(refine hK _ _ ?_;clear hK K)|(refine aB ?_ ?_<;>intro hc<;>try exact jz)|refine cp (Pq s k hs hk) ?_|refine az ?_|exact jI|(clear hK K)))
   ·refine lG [.tmp 2,.tmp 3,.tmp 4] ?_
    rw[<-hk3,MW hk (by assumption)];refine bZ.bg ?_;exact kY
   ·obtain⟨e,he1,he2,he3⟩:=hend hc
    have h4:=ug he3;rw[he1]
    (repeat' (first|refine aA fun K hK=>?_|refine aC ?_|(refine hK _ _ ?_;clear hK K)|(refine aB ?_ ?_<;>intro hc<;>try exact jz)|refine cp (Ft s e hs he3) ?_|refine az ?_|exact jI|(clear hK K)))
    refine hKr _ _ (Bf [1] (og s e,ts++[(gB s k).1]) ⟨h4.2,by simp;omega,by rw[<-hk3,JO hk hc,he1];simp⟩ jJ rfl Sd Sd kY)
  ·(repeat' (first|refine aA fun K hK=>?_|refine aC ?_|(refine hK _ _ ?_;clear hK K)|(refine aB ?_ ?_<;>intro hc<;>try exact jz)|refine hKo _ _ ?_|refine az ?_|exact jI|(clear hK K)))
   refine lG [.tmp 2,.tmp 3,.tmp 4] ?_;rw[<-hk3,Il hk];simp only[go_sem];refine bZ.bg ?_;refine jA ?_ (jA (.same _ rfl) (jA (.same _ rfl) trivial));refine dU.row (enc:=lW) (e:=216) (ts++[⟨0,⟨#[]⟩,s.size⟩]) ?_ ?_ ?_
   ·rfl
   ·(refine S ?_;try exact jI)
    rfl
   ·(refine S ?_;try exact jI)
def gL(r:Rd):List AV:=[rS r.src,bt lW 3 r.l,rI r.i,.rs 1 r.nodes.length 5 r.nodes.length,rI r.deep,rI r.e,rI r.at_]
def ce(r:Rd):List (Nat×Row):=[(0,.var 167 (gL r)),(1,.aO 53 5 (r.nodes.map er))]
attribute [go_sem] ce gL
abbrev pR:AV:=.pt 0 0 0 0
structure nS(r:Rd):Prop where
 src:r.src.size<=1000
 pos:0<=r.i
 lt:r.i<r.l.length
 len:r.l.length<=2000
 ou:-1000<=r.deep
 pi:r.deep<=1000
 nodes:r.nodes.length<=100000
theorem bw{r:Rd}(h:r.Inv):nS r:=by
 have hp:=h.dw;unfold Rd.dw at hp;have:=h.lt;have:=h.ou;have:=h.pi;exact⟨h.src,h.pos,h.lt,h.len,jB,jB,by split at hp<;>omega⟩
theorem te(r:Rd)(e:Int)(h:nS r):aj prog 210 [pR,rI e] (ce r) (fun v l=>v=.bg []/\l=ce (r.aE e)):=by
 obtain⟨h1,h2,h3,h4,h5,h6,h7⟩:=h;refine aU func210 ntmps210 ?_;simp only[ce,gL]
 (repeat' (first|refine aA fun K hK=>?_|refine aC ?_|(with_reducible refine gR 2 ?_);refine dE 2 [0,1,2,3,4,5,6,7,8,9,10,11,12,13,14] mixed ?_|(refine hK _ _ ?_;clear hK K)|(refine aB ?_ ?_<;>intro hc<;>try exact jz)|refine az ?_|exact jI|(clear hK K)))
 ·(refine bV [] ?_ ?_<;>(try simp only[go_sem]))
  simp only[Rd.aE,if_pos hc];rfl
 ·(refine bV [] ?_ ?_<;>(try simp only[go_sem]))
  simp only[Rd.aE,if_neg hc]
theorem gb(r:Rd)(t:ByteArray)(h:nS r):aj prog 147 [pR,rS t] (ce r) (fun v l=>v=rB (r.is t)/\l=ce r):=by
 obtain⟨h1,h2,h3,h4,h5,h6,h7⟩:=h;refine aU func147 ntmps147 ?_;simp only[ce,gL]
 (repeat' (first|refine aA fun K hK=>?_|refine aC ?_|(with_reducible refine gR 1 ?_);refine dE 1 [0,1,2,3,4,5,6,7,8,9,10,11] mixed ?_|(refine hK _ _ ?_;clear hK K)|(refine aB ?_ ?_<;>intro hc<;>try exact jz)|refine az ?_|exact jI|(clear hK K)))
 (refine bH [.tmp 4] ?_;try simp only[go_sem])
 rfl
theorem vO(r:Rd)(k:Int)(h:nS r):aj prog 94 [pR,rI k] (ce r) (fun v l=>v=rB (r.kind k)/\l=ce r):=by
 obtain⟨h1,h2,h3,h4,h5,h6,h7⟩:=h;refine aU func94 ntmps94 ?_;simp only[ce,gL]
 (repeat' (first|refine aA fun K hK=>?_|refine aC ?_|(with_reducible refine gR 1 ?_);refine dE 1 [0,1,2,3,4,5,6,7,8,9,10,11,12,13,14,15,16,17,18,19,20] mixed ?_|(refine hK _ _ ?_;clear hK K)|(refine aB ?_ ?_<;>intro hc<;>try exact jz)|refine az ?_|exact jI|(clear hK K)))
 (refine bH [.tmp 4] ?_;try simp only[go_sem])
 rfl
theorem iz(r:Rd)(t:ByteArray)(h:nS r):aj prog 145 [pR,rS t] (ce r) (fun v l=>v=.bg []/\l=ce (r.aq t)):=by
 have his:=gb r t h;have hf:=te r 20 h;obtain⟨h1,h2,h3,h4,h5,h6,h7⟩:=h;simp only[ce,gL]at his hf;refine aU func145 ntmps145 ?_;simp only[ce,gL]
 (repeat' (first|refine aA fun K hK=>?_|refine aC ?_|(refine hK _ _ ?_;clear hK K)|(refine aB ?_ ?_<;>intro hc<;>try exact jz)|refine cm (his) ?_|refine cm (hf) ?_|refine az ?_|exact jI|(clear hK K)))
 ·(refine bV [] ?_ ?_<;>(try simp only[go_sem]))
  simp only[Rd.aq,hc,Bool.false_eq_true,if_false,go_sem]
 ·(refine bV [] ?_ ?_<;>(try simp only[go_sem]))
  simp only[Rd.aq,hc,if_true];rfl
theorem uo(r:Rd)(h:nS r):aj prog 146 [pR] (ce r) (fun v l=>v=rS r.name.2/\l=ce r.name.1):=by
 have his:=vO r 3 h;have hf:=te r 20 h;obtain⟨h1,h2,h3,h4,h5,h6,h7⟩:=h;simp only[ce,gL]at his hf;refine aU func146 ntmps146 ?_;simp only[ce,gL]
 (repeat' (first|refine aA fun K hK=>?_|refine aC ?_|(with_reducible refine gR 6 ?_);refine dE 6 [0,1,2,3,4,5,6,7,8,9,10,11,12] mixed ?_|(refine hK _ _ ?_;clear hK K)|(refine aB ?_ ?_<;>intro hc<;>try exact jz)|refine cm (his) ?_|refine cm (hf) ?_|refine az ?_|exact jI|(clear hK K)))
 ·(refine bV [.tmp 2] ?_ ?_<;>(try simp only[go_sem]))
  ·simp only[Rd.name,hc,Bool.false_eq_true,if_false]
  ·simp only[Rd.name,hc,Bool.false_eq_true,if_false,go_sem]
 ·(refine bV [.tmp 2] ?_ ?_<;>(try simp only[go_sem]))
  ·simp only[Rd.name,hc,if_true]
   rw[show r.i+1-1=r.i from jB];rfl
  ·simp only[Rd.name,hc,if_true];rfl
theorem gA(r:Rd)(h:nS r):aj prog 144 [pR] (ce r) (fun v l=>v=rI r.cu/\l=ce r):=by
 obtain⟨h1,h2,h3,h4,h5,h6,h7⟩:=h;refine aU func144 ntmps144 ?_;simp only[ce,gL]
 (repeat' (first|refine aA fun K hK=>?_|refine aC ?_|(with_reducible refine gR 1 ?_);refine dE 1 [0,1,2,3,4,5,6,7,8,9,10,11,12,13,14,15,16] mixed ?_|(refine hK _ _ ?_;clear hK K)|(refine aB ?_ ?_<;>intro hc<;>try exact jz)|refine cp (OK _ _ jB) ?_|refine az ?_|exact jI|(clear hK K)))
 (refine bV [.tmp 2] ?_ ?_<;>(try simp only[go_sem]))
 rfl
theorem wl(r:Rd)(k ln n:Int)(nm:ByteArray)(L:List Int)(h:nS r):aj prog 215 [pR,rI k,rI ln,rI n,rS nm,bt eI 1 L] (ce r) (fun v l=>v=rI (r.put k ln n nm L).2/\l=ce (r.put k ln n nm L).1):=by
 obtain⟨h1,h2,h3,h4,h5,h6,h7⟩:=h;refine aU func215 ntmps215 ?_;simp only[ce,gL]
 (repeat' (first|refine aA fun K hK=>?_|refine aC ?_|(refine hK _ _ ?_;clear hK K)|(refine aB ?_ ?_<;>intro hc<;>try exact jz)|refine az ?_|exact jI|(clear hK K)))
 (refine bV [.tmp 12] ?_ ?_<;>(try simp only[go_sem]))
 ·simp only[Rd.put];exact LW jB
 ·simp only[Rd.put,Rd.node,List.map_append,List.length_append,List.length_cons,List.length_nil];rfl
theorem tL(r:Rd)(h:nS r):aj prog 213 [pR] (ce r) (fun v l=>v=.bg []/\l=ce r.down):=by
 have hf:=te r 21 h;obtain⟨h1,h2,h3,h4,h5,h6,h7⟩:=h;simp only[ce,gL]at hf;refine aU func213 ntmps213 ?_;simp only[ce,gL]
 (repeat' (first|refine aA fun K hK=>?_|refine aC ?_|(refine hK _ _ ?_;clear hK K)|(refine aB ?_ ?_<;>intro hc<;>try exact jz)|refine cm (hf) ?_|refine az ?_|exact jI|(clear hK K)))
 ·(refine bV [] ?_ ?_<;>(try simp only[go_sem]))
  simp only[Rd.down,if_pos hc,go_sem]
 ·(refine bV [] ?_ ?_<;>(try simp only[go_sem]))
  simp only[Rd.down];rw[jN]
theorem qz(r:Rd)(h:nS r):aj prog 211 [pR] (ce r) (fun v l=>v=rS r.word/\l=ce r):=by
 have his:=vO r 4 h;obtain⟨h1,h2,h3,h4,h5,h6,h7⟩:=h;simp only[ce,gL]at his;refine aU func211 ntmps211 ?_;simp only[ce,gL]
 (repeat' (first|refine aA fun K hK=>?_|refine aC ?_|(with_reducible refine gR 3 ?_);refine dE 3 [0,1,2,3,4,5,6,7,8,9,10,11] mixed ?_|(refine hK _ _ ?_;clear hK K)|(refine aB ?_ ?_<;>intro hc<;>try exact jz)|refine cm (his) ?_|refine az ?_|exact jI|(clear hK K)))
 ·(refine bV [.tmp 2] ?_ ?_<;>(try simp only[go_sem]))
  simp only[Rd.word,hc,if_true];rfl
 ·(refine bV [.tmp 2] ?_ ?_<;>(try simp only[go_sem]))
  simp only[Rd.word,hc,Bool.false_eq_true,if_false]
theorem M0(r:Rd)(h:nS r)(hn:r.kind 3=true->r.i+1<r.l.length):aj prog 269 [pR] (ce r) (fun v l=>v=rB r.calls/\l=ce r):=by
 have his:=vO r 3 h;obtain⟨h1,h2,h3,h4,h5,h6,h7⟩:=h;simp only[ce,gL]at his;refine aU func269 ntmps269 ?_;simp only[ce,gL]
 (repeat' (first|refine aA fun K hK=>?_|refine aC ?_|(with_reducible refine gR 2 ?_);refine dE 2 [0,1,2,3,4,5,6,7,8,9,10,11,12,13,14,15,16,17,18,19,20,21,22,23,24,25,26,27,28,29,30,31] mixed ?_|(refine hK _ _ ?_;clear hK K)|(refine aB ?_ ?_<;>intro hc<;>try exact jz)|refine cm (his) ?_|refine az ?_|exact jI|(clear hK K)))
 refine⟨fun h=>⟨h,jB,hn h⟩,fun h=>⟨h,jB,hn (by simp only[Bool.and_eq_true]at h;exact h.1)⟩,?_⟩
 (repeat' (first|refine aA fun K hK=>?_|refine aC ?_|(refine hK _ _ ?_;clear hK K)|(refine aB ?_ ?_<;>intro hc<;>try exact jz)|refine az ?_|exact jI|(clear hK K)))
 (refine bH [.tmp 2] ?_;try simp only[go_sem])
 rfl
theorem Iw(lv:Int):dV prog 290 [rI lv] (bt eS 1 (mA lv)):=by
 refine eQ func290 ntmps290 ?_
 (repeat' (first|refine aA fun K hK=>?_|refine aC ?_|(refine hK _ _ ?_;clear hK K)|(refine aB ?_ ?_<;>intro hc<;>try exact jz)|refine az ?_|exact jI|(clear hK K)))
 all_goals refine lG [.tmp 2] ?_
 all_goals simp only[mA, *,if_true,if_false,Int.reduceEq,if_pos,if_neg,not_false_eq_true]
 all_goals exact .lit _ _ _ _ _
theorem NY(lv:Int):(mA lv).length<=4/\∀s∈mA lv,s≠⟨#[]⟩:=by
 unfold mA;split
 ·decide
 ·split
  ·decide
  ·split
   ·decide
   ·split<;>decide
theorem G9(r:Rd)(lv:Int)(h:nS r):aj prog 283 [pR,rI lv] (ce r) (fun v l=>v=rS (r.next lv)/\l=ce r):=by
 have his:=fun t=>gb r t h
 have hl:=NY lv;obtain⟨h1,h2,h3,h4,h5,h6,h7⟩:=h;simp only[ce,gL]at his;refine aU func283 ntmps283 ?_;simp only[ce,gL]
 (repeat' (first|refine aA fun K hK=>?_|refine aC ?_|(refine hK _ _ ?_;clear hK K)|(refine aB ?_ ?_<;>intro hc<;>try exact jz)|refine cp (Iw lv) ?_|refine az ?_|exact jI|(clear hK K)))
 have hKo:=hK;clear hK;refine fm (S:=Nat) [(4,1),(6,2),(10,17)] (fun k=>k<=(mA lv).length/\∀j,j<k->r.is (nth (mA lv) j)=false) (fun k=>[(6,rI k)]) (fun _=>⟨[0,1],ce r⟩) (fun k=>(mA lv).length-k) 0 ⟨jB,fun j h=>jB⟩ (fi rfl cX) ?_;rintro k ⟨hk1,hk2⟩ Kr hKr;simp only[ce,gL]
 (refine S ?_;try exact jI)
 (repeat' (first|refine aA fun K hK=>?_|refine aC ?_|(refine hK _ _ ?_;clear hK K)|(refine aB ?_ ?_<;>intro hc<;>try exact jz)|refine cm (his _) ?_|refine hKo _ _ ?_|refine az ?_|exact jI|(clear hK K)))
 ·(refine bV [.tmp 4] ?_ ?_<;>(try simp only[go_sem]))
  have:(mA lv).find? (fun s=>r.is s)=some (nth (mA lv) k):=yz hk2 jB hc;simp only[Rd.next,this]
 ·refine hKr _ _ (fw (k+1) ⟨jB,fun j hj=>?_⟩ jJ rfl cX)
  by_cases e:j=k
  ·subst e;exact hc
  ·exact hk2 j jB
 ·(refine bV [.tmp 4] ?_ ?_<;>(try simp only[go_sem]))
  have:(mA lv).find? (fun s=>r.is s)=none:=Bu fun j hj=>hk2 j jB
  simp only[Rd.next,this]
theorem LO{P:Program}{f:FuncId}{args args':List AV}{l:List (Nat×Row)}{R:AV->List (Nat×Row)->Prop}(hl:pI args args')(h:aj P f args' l R):aj P f args l R:=fun w vs h1 h2=>by
 obtain⟨hlen,hg⟩:=hl.get;refine h w vs h1 ⟨hlen.symm.trans h2.1,fun i a v ha hv=>?_⟩;have hi:i<args.length:=by rw[hlen];exact(List.getElem?_eq_some_iff.1 ha).1
 exact hg i args[i] a (List.getElem?_eq_getElem hi) ha w v (h2.2 i _ v (List.getElem?_eq_getElem hi) hv)
theorem kM(r:Rd)(k ln n:Int)(nm:ByteArray)(L:List Int)(a:AV)(ha:gq a (bt eI 1 L))(h:nS r):aj prog 215 [pR,rI k,rI ln,rI n,rS nm,a] (ce r) (fun v l=>v=rI (r.put k ln n nm L).2/\l=ce (r.put k ln n nm L).1):=
 LO (args':=[pR,rI k,rI ln,rI n,rS nm,bt eI 1 L]) ⟨gq.refl _,gq.refl _,gq.refl _,gq.refl _,gq.refl _,ha,trivial⟩ (wl r k ln n nm L h)
def BF(n:Nat):Prop:=∀r:Rd,r.Inv->8*r.rem+1<=n->aj prog 289 [pR] (ce r) (fun v l=>v=rI (p8 n r).2/\l=ce (p8 n r).1)
def xe(n:Nat):Prop:=∀r:Rd,r.Inv->8*r.rem+2<=n->aj prog 282 [pR] (ce r) (fun v l=>v=rI (gW n r).2/\l=ce (gW n r).1)
def yh(n:Nat):Prop:=∀(lv:Nat) (r:Rd),lv<=5->r.Inv->8*r.rem+8-lv<=n->aj prog 271 [pR,rI lv] (ce r) (fun v l=>v=rI (dJ n lv r).2/\l=ce (dJ n lv r).1)
theorem H9(n:Nat)(ha:BF n)(hf:xe n):xe (n+1):=by
 intro r h hn;have sg:∀t,r.is t=true->r.e=0/\r.down.Inv/\r.down.inc.Inv/\r.down.inc.rem+1<=r.rem:=fun t ht=>by
  obtain⟨he,hk⟩:=Rd.aT ht;obtain⟨h1,h2,h3,h4,_⟩:=Rd.bF h he;have htk:r.down.tok=r.tok:=by unfold Rd.tok;rw[h3,h4]
  obtain⟨s1,e1⟩:=Rd.bj h1 (by rw[htk];exact hk);have:=s1.inv h1;have hb:=Rd.behind h1 (by rw[htk];exact hk);refine⟨he,h1,this,?_⟩;unfold Rd.rem;rw[if_pos he];have:r.down.inc.i=r.i+1:=by show r.down.i+1=_;rw[h3]
  have hl:r.down.inc.l=r.l:=h4;rw[this,hl];rw[h3,h4]at hb;split<;>omega
 by_cases hm:r.is (⟨#[45]⟩:ByteArray)=true
 ·obtain⟨he,h1,h2,h3⟩:=sg _ hm
  have s2:=(ry n).2.1 _ h2;have h4:=s2.inv h2;have h5:(gW n r.down.inc).1.up.Inv:=(Rd.fc h he ((Rd.bj h1 (by obtain⟨_,_,h3,h4,_⟩:=Rd.bF h he;unfold Rd.tok;rw[h3,h4];exact(Rd.aT hm).2)).1.trans s2)).inv h;have hd1:=h2.ou;have hd2:=h2.pi;have hi1:=h1.lt;have hi2:=h1.len;have hi3:=h1.pos;have hd3:=h4.ou;have hd4:=h4.pi;rw[gW,if_pos hm];refine aU func282 ntmps282 ?_
  (refine S ?_;try exact jI)
  (have W:=hm;repeat' (first|refine aA fun K hK=>?_|refine aC ?_|(refine hK _ _ ?_;clear hK K)|(refine aB ?_ ?_<;>intro hc<;>try exact jz)|refine cm (gA r (bw h)) ?_|refine cm (gb r _ (bw h)) ?_|refine cm (tL r (bw h)) ?_|refine cm (hf r.down.inc h2 jB) ?_|refine cm (kM (gW n r.down.inc).1.up _ _ _ _ [(gW n r.down.inc).2] _ gq.sl (bw h5)) ?_|refine az ?_|exact jI|(clear hK K)));all_goals(try clear W)
  (refine bV [.tmp 2] ?_ ?_<;>(try simp only[go_sem]))
 ·have hmf:r.is (⟨#[45]⟩:ByteArray)=false:=by simpa using hm
  by_cases hq:r.is (⟨#[33]⟩:ByteArray)=true
  ·obtain⟨he,h1,h2,h3⟩:=sg _ hq
   have s2:=(ry n).2.1 _ h2;have h4:=s2.inv h2;have h5:(gW n r.down.inc).1.up.Inv:=(Rd.fc h he ((Rd.bj h1 (by obtain⟨_,_,h3,h4,_⟩:=Rd.bF h he;unfold Rd.tok;rw[h3,h4];exact(Rd.aT hq).2)).1.trans s2)).inv h;have hd1:=h2.ou;have hd2:=h2.pi;have hi1:=h1.lt;have hi2:=h1.len;have hi3:=h1.pos;have hd3:=h4.ou;have hd4:=h4.pi;rw[gW,if_neg hm,if_pos hq];refine aU func282 ntmps282 ?_
   (refine S ?_;try exact jI)
   (have W:=jA hmf hq;repeat' (first|refine aA fun K hK=>?_|refine aC ?_|(refine hK _ _ ?_;clear hK K)|(refine aB ?_ ?_<;>intro hc<;>try exact jz)|refine cm (gA r (bw h)) ?_|refine cm (gb r _ (bw h)) ?_|refine cm (tL r (bw h)) ?_|refine cm (hf r.down.inc h2 jB) ?_|refine cm (kM (gW n r.down.inc).1.up _ _ _ _ [(gW n r.down.inc).2] _ gq.sl (bw h5)) ?_|refine az ?_|exact jI|(clear hK K)));all_goals(try clear W)
   (refine bV [.tmp 2] ?_ ?_<;>(try simp only[go_sem]))
  ·have hqf:r.is (⟨#[33]⟩:ByteArray)=false:=by simpa using hq
   rw[gW,if_neg hm,if_neg hq];refine aU func282 ntmps282 ?_
   (refine S ?_;try exact jI)
   (have W:=jA hmf hqf;repeat' (first|refine aA fun K hK=>?_|refine aC ?_|(refine hK _ _ ?_;clear hK K)|(refine aB ?_ ?_<;>intro hc<;>try exact jz)|refine cm (gA r (bw h)) ?_|refine cm (gb r _ (bw h)) ?_|refine cm (ha r h jB) ?_|refine az ?_|exact jI|(clear hK K)));all_goals(try clear W)
   (refine bV [.tmp 2] ?_ ?_<;>(try simp only[go_sem]))
theorem Ij(n:Nat)(hf:xe n)(hcc:∀m,m<=n->yh m):yh (n+1):=by
 intro lv r hlv h hn;have hch:∀(m:Nat) (q:Rd),m<=n->lv+1<=5->q.Inv->8*q.rem+7-lv<=m->aj prog 271 [pR,rI ((lv:Int)+1)] (ce q) (fun v l=>v=rI (dJ m (lv+1) q).2/\l=ce (dJ m (lv+1) q).1):=fun m q hm hl hq hr=>by
  have:=hcc m hm (lv+1) q hl hq jB;rw[show((lv+1:Nat):Int)=(lv:Int)+1 from jB]at this;exact this
 by_cases h5:lv=5
 ·subst h5
  rw[dJ,if_pos rfl];refine aU func271 ntmps271 ?_
  (refine S ?_;try exact jI)
  (repeat' (first|refine aA fun K hK=>?_|refine aC ?_|(refine hK _ _ ?_;clear hK K)|(refine aB ?_ ?_<;>intro hc<;>try exact jz)|refine cm (hf r h jB) ?_|refine az ?_|exact jI|(clear hK K)))
  (refine bV [.tmp 4] ?_ ?_<;>(try simp only[go_sem]))
 ·rw[dJ,if_neg h5]
  have s1:=(ry n).2.2.1 (lv+1) r h;have h1:=s1.inv h;have hr1:=s1.rem;refine aU func271 ntmps271 ?_
  (refine S ?_;try exact jI)
  (repeat' (first|refine aA fun K hK=>?_|refine aC ?_|(refine hK _ _ ?_;clear hK K)|(refine aB ?_ ?_<;>intro hc<;>try exact jz)|refine cm (gA r (bw h)) ?_|refine cm (hch n r jl jB h jB) ?_|refine az ?_|exact jI|(clear hK K)))
  refine fm (S:=Nat×Rd×Int) [(4,1),(6,3),(19,27)] (fun s=>s.2.1.Inv/\8*s.2.1.rem+7-lv<=s.1/\s.1<=n/\nX s.1 lv r.cu s.2=nX n lv r.cu (dJ n (lv+1) r)) (fun s=>[(6,rI s.2.2)]) (fun s=>⟨[0,1],ce s.2.1⟩) (fun s=>s.1) (n,dJ n (lv+1) r) ⟨h1,jJ,Nat.le_refl _,rfl⟩ (fi rfl cX) ?_;rintro⟨m,q,x⟩ ⟨hq,hm1,hm2,hm3⟩ Kr hKr;simp only at hq hm1 hm2 hm3;rw[<-hm3];obtain⟨m,rfl⟩:∃k,m=k+1:=⟨m-1,jB⟩;have hql:=hq.lt;have hqp:=hq.pos;have hqn:=hq.len;by_cases hx:q.next lv=⟨#[]⟩
  ·rw[nX,if_pos hx]
   (refine S ?_;try exact jI)
   (have W:=hx;repeat' (first|refine aA fun K hK=>?_|refine aC ?_|(refine hK _ _ ?_;clear hK K)|(refine aB ?_ ?_<;>intro hc<;>try exact jz)|refine cm (G9 q lv (bw hq)) ?_|refine az ?_|exact jI|(clear hK K)));all_goals(try clear W)
   (refine bV [.tmp 4] ?_ ?_<;>(try simp only[go_sem]))
  ·have hk:=Rd.aT (Rd.lj hx)
   obtain⟨t1,e1⟩:=Rd.bj hq hk.2;have hi:=t1.inv hq;have hri:=Rd.cO hq hk;have t2:=(ry m).2.2.1 (lv+1) _ hi;have hj:=t2.inv hi;have hrj:=t2.rem;have t3:=fun L=>Rd.cJ (t1.trans t2) (by have:=t2.dw;omega) 9 r.cu 0 (q.next lv) L
   rw[nX,if_neg hx]
   (refine S ?_;try exact jI)
   (have W:=hx;repeat' (first|refine aA fun K hK=>?_|refine aC ?_|(refine hK _ _ ?_;clear hK K)|(refine aB ?_ ?_<;>intro hc<;>try exact jz)|refine cm (G9 q lv (bw hq)) ?_|refine cm (hch m q.inc jB jB hi jB) ?_|refine cm (kM (dJ m (lv+1) q.inc).1 _ _ _ _ [x,(dJ m (lv+1) q.inc).2] _ gq.sl (bw hj)) ?_|refine az ?_|exact jI|(clear hK K)));all_goals(try clear W)
   ·have h2:lv=2:=jB
    (refine bV [.tmp 4] ?_ ?_<;>(try simp only[go_sem]))
    ·simp only[if_pos h2]
    ·simp only[if_pos h2]
   ·have h2:¬lv=2:=jB
    refine hKr _ _ (fw (m,(dJ m (lv+1) q.inc).1.put 9 r.cu 0 (q.next lv) [x,(dJ m (lv+1) q.inc).2]) ⟨(t3 _).inv hq,?_,jJ,?_⟩ jJ rfl cX)
    ·have h6:∀L,((dJ m (lv+1) q.inc).1.put 9 r.cu 0 (q.next lv) L).1.rem=(dJ m (lv+1) q.inc).1.rem:=fun L=>rfl
     simp only[h6];omega
    ·rw[<-hm3,nX,if_neg hx,if_neg h2]
end Go.Proofs.YtfkgcobaheegbaaGreatDoor
