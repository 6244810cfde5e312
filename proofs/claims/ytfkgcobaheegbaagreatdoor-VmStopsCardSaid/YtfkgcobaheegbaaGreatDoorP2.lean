/- Lemmas. No conditions. -/
import Derived.Test.YtfkgcobaheegbaaGreatDoorGdTm
import Derived.Test.YtfkgcobaheegbaaGreatDoorLxT
set_option linter.all false
set_option maxHeartbeats 4000000
set_option maxRecDepth 10000
namespace Go.Proofs.YtfkgcobaheegbaaGreatDoor
open Go Go.Gd Tryz
abbrev rI(n:Int):AV:=.raw (.int .i64 n)
abbrev rU(n:Int):AV:=.raw (.int .u8 n)
abbrev rS(s:ByteArray):AV:=.raw (.string s)
abbrev rB(b:Bool):AV:=.raw (.bool b)
theorem vW(n:Int):eG prog 203 [rU n] (rB (jY n)):=by
 refine fm func203 ntmps203 ?_
 (repeat' (first|refine aB fun K hK=>?_|refine aC ?_|(refine hK _ _ ?_;clear hK K)|(refine aA ?_ ?_<;>intro hc<;>try exact jz)|refine aD ?_|exact jI|(clear hK K)))
 (refine bW [.tmp 2] ?_ ?_<;>(try simp only[go_sem]))
 rfl
theorem AM(n:Int):eG prog 205 [rU n] (rB (wl n)):=by
 refine fm func205 ntmps205 ?_
 (repeat' (first|refine aB fun K hK=>?_|refine aC ?_|(refine hK _ _ ?_;clear hK K)|(refine aA ?_ ?_<;>intro hc<;>try exact jz)|refine aD ?_|exact jI|(clear hK K)))
 (refine bW [.tmp 2] ?_ ?_<;>(try simp only[go_sem]))
 rfl
theorem Je(s:ByteArray):eG prog 204 [rS s] (rB (xd s)):=by
 refine fm func204 ntmps204 ?_
 (repeat' (first|refine aB fun K hK=>?_|refine aC ?_|(refine hK _ _ ?_;clear hK K)|(refine aA ?_ ?_<;>intro hc<;>try exact jz)|refine aD ?_|exact jI|(clear hK K)))
 (refine bW [.tmp 2] ?_ ?_<;>(try simp only[go_sem]))
 rfl
theorem KE(s:ByteArray)(at_:Int)(hs:s.size<=1000000):eG prog 209 [rS s,rI at_] (rI (oX s (min s.size at_.toNat))):=by
 refine fm func209 ntmps209 ?_
 (repeat' (first|refine aB fun K hK=>?_|refine aC ?_|(refine hK _ _ ?_;clear hK K)|(refine aA ?_ ?_<;>intro hc<;>try exact jz)|refine aD ?_|exact jI|(clear hK K)))
 have hKo:=hK;clear hK;refine fi (S:=Nat) [(5,19)] (fun k=>k<=s.size/\k<=at_.toNat) (fun k=>[(5,rI (oX s k)),(6,rI k)]) (fun _=>⟨[],[]⟩) (fun k=>s.size-k) 0 jB (fj rfl (by simp only[go_sem,jR,Nat.reduceAdd,AV.raw.injEq,Value.int.injEq,Value.slice.injEq,Value.pointer.injEq,AV.rs.injEq,oX];try omega)) ?_;rintro k ⟨hk1,hk2⟩ Kr hKr;have hb:=Fa s k
 (refine S ?_;try exact jI)
 (repeat' (first|refine aB fun K hK=>?_|refine aC ?_|(refine hK _ _ ?_;clear hK K)|(refine aA ?_ ?_<;>intro hc<;>try exact jz)|refine hKo _ _ ?_|refine aD ?_|exact jI|(clear hK K)))
 ·refine hKr _ _ (fw (k+1) jB jJ rfl (by simp only[oX,if_pos hc];exact cQ))
 ·refine hKr _ _ (fw (k+1) jB jJ rfl (by simp only[oX,if_neg hc];exact cQ))
 ·(refine bW [.tmp 4] ?_ ?_<;>(try simp only[go_sem]))
  rw[show min s.size at_.toNat=k from jB]
theorem N8{s:ByteArray}(h:∀j,j<fR.length->nth fR j≠s):vt s=false:=by unfold vt;rw[List.any_eq_false];intro x hm;obtain⟨j,hj,rfl⟩:=List.getElem_of_mem hm;have:=h j hj;rw[dN hj]at this;simp[this]
theorem Mt{s:ByteArray}{k:Nat}(hk:k<fR.length)(h:nth fR k=s):vt s=true:=by unfold vt;rw[List.any_eq_true];exact⟨fR[k],List.getElem_mem hk,by rw[dN hk]at h;simp[h]⟩
theorem JW(s:ByteArray):eG prog 206 [rS s] (rB (vt s)):=by
 refine fm func206 ntmps206 ?_
 (repeat' (first|refine aB fun K hK=>?_|refine aC ?_|(refine hK _ _ ?_;clear hK K)|(refine aA ?_ ?_<;>intro hc<;>try exact jz)|refine aD ?_|exact jI|(clear hK K)))
 have hKo:=hK;clear hK;refine fi (S:=Nat) [(2,1),(4,1),(6,12)] (fun k=>k<=16/\∀j,j<k->nth fR j≠s) (fun k=>[(3,.sl true 1 (fR.map eS) []),(4,rI k)]) (fun _=>⟨[],[]⟩) (fun k=>16-k) 0 ⟨jB,fun j h=>jB⟩ (fj rfl (by(repeat' (first|exact jI|exact Or.inr rfl|exact Or.inl rfl|refine jA ?_ ?_)))) ?_;rintro k ⟨hk1,hk2⟩ Kr hKr;have hl:=Ou
 (refine S ?_;try exact jI)
 (repeat' (first|refine aB fun K hK=>?_|refine aC ?_|(refine hK _ _ ?_;clear hK K)|(refine aA ?_ ?_<;>intro hc<;>try exact jz)|refine hKo _ _ ?_|refine aD ?_|exact jI|(clear hK K)))
 ·(refine bW [.tmp 2] ?_ ?_<;>(try simp only[go_sem]))
  rw[Mt jB hc]
 ·refine hKr _ _ (fw (k+1) ⟨jB,fun j hj=>?_⟩ jJ rfl cQ);by_cases e:j=k
  ·subst e;exact hc
  ·exact hk2 j jB
 ·(refine bW [.tmp 2] ?_ ?_<;>(try simp only[go_sem]))
  rw[N8 fun j hj=>hk2 j jB]
theorem HP(s:ByteArray)(i:Nat)(hs:s.size<=1000000)(hi:i<=s.size):eG prog 142 [rS s,rI i] (rI (nV s i:Nat)):=by
 refine fm func142 ntmps142 ?_
 (repeat' (first|refine aB fun K hK=>?_|refine aC ?_|(refine hK _ _ ?_;clear hK K)|(refine aA ?_ ?_<;>intro hc<;>try exact jz)|refine aD ?_|exact jI|(clear hK K)))
 have hKo:=hK;clear hK;refine fi (S:=Nat) [(1,1),(4,54)] (fun k=>k<=s.size/\nV s k=nV s i) (fun k=>[(1,rI k)]) (fun _=>⟨[],[]⟩) (fun k=>s.size-k) i ⟨hi,rfl⟩ (fj rfl cQ) ?_;rintro k ⟨hk1,hk2⟩ Kr hKr
 (refine S ?_;try exact jI)
 (repeat' (first|refine aB fun K hK=>?_|refine aC ?_|(refine hK _ _ ?_;clear hK K)|(refine aA ?_ ?_<;>intro hc<;>try exact jz)|refine hKo _ _ ?_|refine aD ?_|exact jI|(clear hK K)))
 ·have hst:me s k=some (k+1):=by
   unfold me;rw[jP,if_pos];simp[yT];omega
  refine hKr _ _ (fw (k+1) ⟨jB,by rw[<-hk2,Fv hst]⟩ jJ rfl cQ)
 ·have hst:me s k=some (iE rP s k):=by
   unfold me;rw[jP,if_neg (by simp[yT];omega),if_pos];simp[zc];exact⟨⟨hc.1.1,jB⟩,hc.2⟩
  have hlt:=y6 hst;have hKi:=hK;clear hK;refine fi (S:=Nat) [(1,1),(45,12)] (fun m=>k<=m/\m<=s.size/\∀j,k<=j->j<m->rP (eL s j)=true) (fun m=>[(1,rI m)]) (fun _=>⟨[],[]⟩) (fun m=>s.size-m) k ⟨jB,jB,fun j h1 h2=>jB⟩ (fj rfl cQ) ?_;rintro m ⟨hm1,hm2,hm3⟩ Kj hKj
  (refine S ?_;try exact jI)
  (repeat' (first|refine aB fun K hK=>?_|refine aC ?_|(refine hK _ _ ?_;clear hK K)|(refine aA ?_ ?_<;>intro hc<;>try exact jz)|refine hKi _ _ ?_|refine aD ?_|exact jI|(clear hK K)))
  ·refine hKj _ _ (fw (m+1) ⟨jB,jB,fun j h1 h2=>?_⟩ jJ rfl cQ);by_cases e:j=m
   ·subst e;simp only[rP,decide_eq_true_eq];exact hc.2
   ·exact hm3 j h1 jB
  ·have e:iE rP s k=m:=zw (by simp only[rP,decide_eq_true_eq];omega) hm1 hm2 hm3;rw[e]at hst hlt;refine hKr _ _ (fw m ⟨jB,by rw[<-hk2,Fv hst]⟩ jJ rfl cQ)
 ·(refine bW [.tmp 4] ?_ ?_<;>(try simp only[go_sem]))
  rw[<-hk2,Ds];unfold me;rw[jP,if_neg (by simp[yT];omega),if_neg];simp[zc];omega
 ·(refine bW [.tmp 4] ?_ ?_<;>(try simp only[go_sem]))
  rw[<-hk2,Ds];unfold me;rw[jN]
theorem KK(s:ByteArray)(a:Nat)(hs:s.size<=1000000)(ha:a<s.size):eG prog 207 [rS s,rI a] (.bj [rS (oh s a).1,rI (oh s a).2.1,rI (oh s a).2.2]):=by
 refine fm func207 ntmps207 ?_
 (repeat' (first|refine aB fun K hK=>?_|refine aC ?_|(refine hK _ _ ?_;clear hK K)|(refine aA ?_ ?_<;>intro hc<;>try exact jz)|refine aD ?_|exact jI|(clear hK K)))
 have hKo:=hK;clear hK;refine fi (S:=Nat) [(7,1),(10,24)] (fun m=>a+1<=m/\m<=s.size/\∀j,a+1<=j->j<m->um (eL s j)=true) (fun m=>[(7,rI m)]) (fun _=>⟨[],[]⟩) (fun m=>s.size-m) (a+1) ⟨jB,jB,fun j h1 h2=>jB⟩ (fj rfl cQ) ?_;rintro m ⟨hm1,hm2,hm3⟩ Kr hKr
 (refine S ?_;try exact jI)
 (repeat' (first|refine aB fun K hK=>?_|refine aC ?_|(refine hK _ _ ?_;clear hK K)|(refine aA ?_ ?_<;>intro hc<;>try exact jz)|refine hKo _ _ ?_|refine aD ?_|exact jI|(clear hK K)))
 ·refine hKr _ _ (fw (m+1) ⟨jB,jB,fun j h1 h2=>?_⟩ jJ rfl cQ);by_cases e:j=m
  ·subst e;simp only[um,Bool.and_eq_true,decide_eq_true_eq];exact⟨⟨hc.1.1.2,hc.1.2⟩,hc.2⟩
  ·exact hm3 j h1 jB
 all_goals have e:iE um s (a+1)=m:=zw (by simp only[um,Bool.and_eq_true,decide_eq_true_eq];omega) hm1 hm2 hm3
 ·(refine bW [.tmp 4,.tmp 5,.tmp 6] ?_ ?_<;>(try simp only[go_sem]))
  simp only[oh,e];rw[jN]
 ·(refine bW [.tmp 4,.tmp 5,.tmp 6] ?_ ?_<;>(try simp only[go_sem]))
  simp only[oh,e];rw[jP,jP]
 ·(refine bW [.tmp 4,.tmp 5,.tmp 6] ?_ ?_<;>(try simp only[go_sem]))
  simp only[oh,e];rw[jP,jN]
theorem KB:jb.length=5:=rfl
theorem LI(s:ByteArray)(hs:0<s.size)(hs2:s.size<=1000000):eG prog 208 [rS s] (rS (nE s)):=by
 refine fm func208 ntmps208 ?_
 (repeat' (first|refine aB fun K hK=>?_|refine aC ?_|(refine hK _ _ ?_;clear hK K)|(refine aA ?_ ?_<;>intro hc<;>try exact jz)|refine aD ?_|exact jI|(clear hK K)))
 have hKo:=hK;clear hK;refine fi (S:=Nat) [(2,1),(4,1),(8,22)] (fun k=>k<=5/\∀j,j<k->p8 s (nth jb j)=false) (fun k=>[(3,.sl true 1 (jb.map eS) []),(4,rI k)]) (fun _=>⟨[],[]⟩) (fun k=>5-k) 0 ⟨jB,fun j h=>jB⟩ (fj rfl (by(repeat' (first|exact jI|exact Or.inr rfl|exact Or.inl rfl|refine jA ?_ ?_)))) ?_;rintro k ⟨hk1,hk2⟩ Kr hKr;have hl:=KB
 (refine S ?_;try exact jI)
 (repeat' (first|refine aB fun K hK=>?_|refine aC ?_|(with_reducible refine gR 5 ?_);refine dE 5 [0,1,2,3,4,5,6,7,8,9,10,11] mixed ?_|(refine hK _ _ ?_;clear hK K)|(refine aA ?_ ?_<;>intro hc<;>try exact jz)|refine hKo _ _ ?_|refine aD ?_|exact jI|(clear hK K)))
 ·(refine bW [.tmp 2] ?_ ?_<;>(try simp only[go_sem]))
  have:jb.find? (p8 s)=some (nth jb k):=yM hk2 jB (by simp only[p8,Bool.and_eq_true,decide_eq_true_eq];exact hc);simp only[nE,this]
 ·refine hKr _ _ (fw (k+1) ⟨jB,fun j hj=>?_⟩ jJ rfl cQ);by_cases e:j=k
  ·subst e;simp only[p8,Bool.and_eq_false_iff,decide_eq_false_iff_not,Int.not_le];exact hc
  ·exact hk2 j jB
 ·have h2:jb.find? (p8 s)=none:=zJ fun j hj=>hk2 j jB
  have hKo:=hK;clear hK;have hos:ik.size=16:=rfl;refine fi (S:=Nat) [(2,1),(6,1),(30,17)] (fun k=>k<=16/\∀j,j<k->decide (eL s 0=eL ik (nth (List.range 16) j:Nat))=false) (fun k=>[(5,rS ik),(6,rI k)]) (fun _=>⟨[],[]⟩) (fun k=>16-k) 0 ⟨jB,fun j h=>jB⟩ (fj rfl (by(repeat' (first|exact jI|exact Or.inr rfl|exact Or.inl rfl|refine jA ?_ ?_)))) ?_;rintro m ⟨hm1,hm2⟩ Kj hKj
  (refine S ?_;try exact jI)
  (repeat' (first|refine aB fun K hK=>?_|refine aC ?_|(with_reducible refine gR 11 ?_);refine dE 11 [0,1,2,3,4,5] mixed ?_|(refine hK _ _ ?_;clear hK K)|(refine aA ?_ ?_<;>intro hc<;>try exact jz)|refine hKo _ _ ?_|refine aD ?_|exact jI|(clear hK K)))
  ·(refine bW [.tmp 2] ?_ ?_<;>(try simp only[go_sem]))
   have h3:(List.range 16).find? (fun k:Nat=>decide (eL s 0=eL ik (k:Nat)))=some (nth (List.range 16) m):=yM hm2 jF (by rw[BJ jB];simpa using hc);simp only[nE,h2,h3];rw[BJ jB]
  ·refine hKj _ _ (fw (m+1) ⟨jB,fun j hj=>?_⟩ jJ rfl cQ);by_cases e:j=m
   ·subst e;rw[BJ jB];simpa using hc
   ·exact hm2 j jB
  ·(refine bW [.tmp 2] ?_ ?_<;>(try simp only[go_sem]))
   have h3:(List.range 16).find? (fun k:Nat=>decide (eL s 0=eL ik (k:Nat)))=none:=zJ fun j hj=>hm2 j (by simp at hj;omega)
   simp only[nE,h2,h3]
def qn(t:ce×Int×Int):AV:=.bj [.agg (lW t.1),rI t.2.1,rI t.2.2]
theorem L5(s:ByteArray)(a:Nat)(hs:s.size<=1000000)(ha:a<s.size):eG prog 143 [rS s,rI a] (qn (gS s a)):=by
 have hex:(s.extract a s.size).size=s.size-a:=by rw[ByteArray.size_extract];omega
 have hsz:=Js (s.extract a s.size);refine fm func143 ntmps143 ?_
 (repeat' (first|refine aB fun K hK=>?_|refine aC ?_|(refine hK _ _ ?_;clear hK K)|(refine aA ?_ ?_<;>intro hc<;>try exact jz)|refine cp (vW _) ?_|refine cp (AM _) ?_|refine cp (KK s a hs ha) ?_|refine cp (LI _ jB jB) ?_|refine aD ?_|exact jI|(clear hK K)))
 ·have hKo:=hK;clear hK;refine fi (S:=Nat) [(8,1),(20,12)] (fun m=>a<=m/\m<=s.size/\∀j,a<=j->j<m->jY (eL s j)=true) (fun m=>[(8,rI m)]) (fun _=>⟨[],[(0,.var 216 (lW vw))]⟩) (fun m=>s.size-m) a ⟨jB,jB,fun j h1 h2=>jB⟩ (fj rfl cQ) ?_;rintro m ⟨hm1,hm2,hm3⟩ Kr hKr
  (refine S ?_;try exact jI)
  (repeat' (first|refine aB fun K hK=>?_|refine aC ?_|(refine hK _ _ ?_;clear hK K)|(refine aA ?_ ?_<;>intro hc<;>try exact jz)|(first|refine cg (vW _) ?_|refine xH (vW _) ?_)|refine hKo _ _ ?_|refine aD ?_|exact jI|(clear hK K)))
  ·refine hKr _ _ (fw (m+1) ⟨jB,jB,fun j h1 h2=>?_⟩ jJ rfl cQ);by_cases e:j=m
   ·subst e;exact hc.2
   ·exact hm3 j h1 jB
  ·have hd:jY (eL s a)=true:=by assumption
   have e:iE jY s a=m:=zw (by rintro⟨h1,h2⟩;rcases hc with h|h;omega;rw[h2]at h;cases h) hm1 hm2 hm3
   (repeat' (first|refine aB fun K hK=>?_|refine aC ?_|(refine hK _ _ ?_;clear hK K)|(refine aA ?_ ?_<;>intro hc<;>try exact jz)|refine cp (Je _) ?_|refine aD ?_|exact jI|(clear hK K)))
   ·(refine bH [.cell 4 216,.tmp 5,.tmp 6] ?_;try simp only[go_sem])
    simp only[gS,hd,if_true,e,if_neg,hc,Bool.false_eq_true,if_false,qn,vw];rfl
   ·(refine bH [.cell 4 216,.tmp 5,.tmp 6] ?_;try simp only[go_sem])
    simp only[gS,hd,if_true,e,hc,qn];rfl
 ·have hKo:=hK;clear hK;have hnd:jY (eL s a)=false:=by assumption
  have hle:wl (eL s a)=true:=by assumption
  refine fi (S:=Nat) [(8,1),(49,24)] (fun m=>a<=m/\m<=s.size/\∀j,a<=j->j<m->oL (eL s j)=true) (fun m=>[(8,rI m)]) (fun _=>⟨[],[(0,.var 216 (lW vw))]⟩) (fun m=>s.size-m) a ⟨jB,jB,fun j h1 h2=>jB⟩ (fj rfl cQ) ?_;rintro m ⟨hm1,hm2,hm3⟩ Kr hKr;have hexm:(s.extract a m).size=m-a:=by rw[ByteArray.size_extract];omega
  (refine S ?_;try exact jI)
  (repeat' (first|refine aB fun K hK=>?_|refine aC ?_|(refine hK _ _ ?_;clear hK K)|(refine aA ?_ ?_<;>intro hc<;>try exact jz)|(first|refine cg (vW _) ?_|refine xH (vW _) ?_)|(first|refine cg (AM _) ?_|refine xH (AM _) ?_)|refine cp (JW _) ?_|refine hKo _ _ ?_|refine aD ?_|exact jI|(clear hK K)))
  ·refine hKr _ _ (fw (m+1) ⟨jB,jB,fun j h1 h2=>?_⟩ jJ rfl cQ);by_cases e:j=m
   ·subst e;simp only[oL,Bool.or_eq_true,decide_eq_true_eq];exact hc.2
   ·exact hm3 j h1 jB
  all_goals
   have hcc:(s.size:Int)<=m\/(wl (eL s m)=false/\jY (eL s m)=false)/\¬eL s m=95:=by assumption
   have e:iE oL s a=m:=zw (by
    simp only[oL,Bool.or_eq_true,decide_eq_true_eq];rintro⟨h1,h2⟩;rcases hcc with h|⟨⟨h3,h4⟩,h5⟩
    ·omega
    ·rcases h2 with(h|h)|h
     ·rw[h]at h3;exact Bool.noConfusion h3
     ·rw[h]at h4;exact Bool.noConfusion h4
     ·exact h5 h) hm1 hm2 hm3
  ·(refine bH [.cell 4 216,.tmp 5,.tmp 6] ?_;try simp only[go_sem])
   simp only[gS,hnd,hle,e,hc,Bool.false_eq_true,if_false,if_true,qn];rfl
  ·(refine bH [.cell 4 216,.tmp 5,.tmp 6] ?_;try simp only[go_sem])
   simp only[gS,hnd,hle,e, *,Bool.false_eq_true,if_false,if_true,qn];rw[jP];rfl
  ·(refine bH [.cell 4 216,.tmp 5,.tmp 6] ?_;try simp only[go_sem])
   simp only[gS,hnd,hle,e, *,Bool.false_eq_true,if_false,if_true,qn];rw[jN];rfl
 ·(refine bH [.cell 4 216,.tmp 5,.tmp 6] ?_;try simp only[go_sem])
  simp only[gS, *,Bool.false_eq_true,if_false,if_true,qn];rfl
 ·(refine bH [.cell 4 216,.tmp 5,.tmp 6] ?_;try simp only[go_sem])
  simp only[gS, *,Bool.false_eq_true,if_false,if_true,qn];rfl
 ·(refine bH [.cell 4 216,.tmp 5,.tmp 6] ?_;try simp only[go_sem])
  simp only[gS, *,Bool.false_eq_true,if_false,qn];rfl
attribute [go_sem] qn
theorem GC(s:ByteArray)(hs:s.size<=1000000):eG prog 93 [rS s] (.bj [bp lW 3 (kF s).1,rI (kF s).2.1,rI (kF s).2.2]):=by
 refine fm func93 ntmps93 ?_
 (repeat' (first|refine aB fun K hK=>?_|refine aC ?_|(refine hK _ _ ?_;clear hK K)|(refine aA ?_ ?_<;>intro hc<;>try exact jz)|refine cp (HP s 0 hs (Nat.zero_le _)) ?_|refine aD ?_|exact jI|(clear hK K)))
 ·refine l6 [.tmp 2,.tmp 3,.tmp 4] ?_;simp only[kF,if_pos hc];refine bX.bj ?_;exact ki
 ·have hKo:=hK;clear hK;have h0:=vk (s:=s) (i:=0) (Nat.zero_le _);refine fi (S:=Nat×List ce) [(2,8),(16,22)] (fun p=>p.1<=s.size/\p.2.length<=p.1/\uN s p.1 p.2=kF s) (fun p=>[(5,.rs 0 p.2.length 3 p.2.length),(6,rI p.1)]) (fun p=>⟨[],[(0,.aL 216 3 (p.2.map lW))]⟩) (fun p=>s.size-p.1) (nV s 0,[]) ⟨h0.2,Nat.zero_le _,by simp only[kF];rw[jN]⟩ (fj rfl cQ) ?_;rintro⟨k,ts⟩ ⟨hk1,hk2,hk3⟩ Kr hKr;simp only at hk1 hk2 hk3
  (refine S ?_;try exact jI)
  by_cases hk:k<s.size
  ·have hend:=yX (s:=s) (a:=k) hk
   (repeat' (first|refine aB fun K hK=>?_|refine aC ?_|(refine hK _ _ ?_;clear hK K)|(refine aA ?_ ?_<;>intro hc<;>try exact jz)|refine cp (L5 s k hs hk) ?_|refine aD ?_|exact jI|(clear hK K)))
   ·refine l6 [.tmp 2,.tmp 3,.tmp 4] ?_;rw[<-hk3,OR hk (by assumption)];refine bX.bj ?_;exact ki
   ·obtain⟨e,he1,he2,he3⟩:=hend hc;have h4:=vk he3;rw[he1]
    (repeat' (first|refine aB fun K hK=>?_|refine aC ?_|(refine hK _ _ ?_;clear hK K)|(refine aA ?_ ?_<;>intro hc<;>try exact jz)|refine cp (HP s e hs he3) ?_|refine aD ?_|exact jI|(clear hK K)))
    refine hKr _ _ (zp [1] (nV s e,ts++[(gS s k).1]) ⟨h4.2,by simp;omega,by rw[<-hk3,PV hk hc,he1];simp⟩ jJ rfl Sd Sd ki)
  ·(repeat' (first|refine aB fun K hK=>?_|refine aC ?_|(refine hK _ _ ?_;clear hK K)|(refine aA ?_ ?_<;>intro hc<;>try exact jz)|refine hKo _ _ ?_|refine aD ?_|exact jI|(clear hK K)))
   refine l6 [.tmp 2,.tmp 3,.tmp 4] ?_;rw[<-hk3,JR hk];simp only[go_sem];refine bX.bj ?_;refine jA ?_ (jA (.same _ rfl) (jA (.same _ rfl) trivial));refine dv.row (enc:=lW) (e:=216) (ts++[⟨0,⟨#[]⟩,s.size⟩]) ?_ ?_ ?_
   ·rfl
   ·(refine S ?_;try exact jI)
    rfl
   ·(refine S ?_;try exact jI)
def hJ(r:Rd):List AV:=[rS r.src,bp lW 3 r.l,rI r.i,.rs 1 r.nodes.length 5 r.nodes.length,rI r.deep,rI r.e,rI r.at_]
def cr(r:Rd):List (Nat×Row):=[(0,.var 167 (hJ r)),(1,.aL 53 5 (r.nodes.map fb))]
attribute [go_sem] cr hJ
abbrev pR:AV:=.pt 0 0 0 0
structure oA(r:Rd):Prop where
 src:r.src.size<=1000
 pos:0<=r.i
 lt:r.i<r.l.length
 len:r.l.length<=2000
 oT:-1000<=r.deep
 pM:r.deep<=1000
 nodes:r.nodes.length<=100000
theorem bw{r:Rd}(h:r.Inv):oA r:=by have hp:=h.dM;unfold Rd.dM at hp;have:=h.lt;have:=h.oT;have:=h.pM;exact⟨h.src,h.pos,h.lt,h.len,jB,jB,by split at hp<;>omega⟩
theorem ui(r:Rd)(e:Int)(h:oA r):aj prog 210 [pR,rI e] (cr r) (fun v l=>v=.bj []/\l=cr (r.aF e)):=by
 obtain⟨h1,h2,h3,h4,h5,h6,h7⟩:=h;refine aT func210 ntmps210 ?_;simp only[cr,hJ]
 (repeat' (first|refine aB fun K hK=>?_|refine aC ?_|(with_reducible refine gR 2 ?_);refine dE 2 [0,1,2,3,4,5,6,7,8,9,10,11,12,13,14] mixed ?_|(refine hK _ _ ?_;clear hK K)|(refine aA ?_ ?_<;>intro hc<;>try exact jz)|refine aD ?_|exact jI|(clear hK K)))
 ·(refine bW [] ?_ ?_<;>(try simp only[go_sem]))
  simp only[Rd.aF,if_pos hc];rfl
 ·(refine bW [] ?_ ?_<;>(try simp only[go_sem]))
  simp only[Rd.aF,if_neg hc]
theorem gk(r:Rd)(t:ByteArray)(h:oA r):aj prog 147 [pR,rS t] (cr r) (fun v l=>v=rB (r.is t)/\l=cr r):=by
 obtain⟨h1,h2,h3,h4,h5,h6,h7⟩:=h;refine aT func147 ntmps147 ?_;simp only[cr,hJ]
 (repeat' (first|refine aB fun K hK=>?_|refine aC ?_|(with_reducible refine gR 1 ?_);refine dE 1 [0,1,2,3,4,5,6,7,8,9,10,11] mixed ?_|(refine hK _ _ ?_;clear hK K)|(refine aA ?_ ?_<;>intro hc<;>try exact jz)|refine aD ?_|exact jI|(clear hK K)))
 (refine bH [.tmp 4] ?_;try simp only[go_sem])
 rfl
theorem vN(r:Rd)(k:Int)(h:oA r):aj prog 94 [pR,rI k] (cr r) (fun v l=>v=rB (r.kind k)/\l=cr r):=by
 obtain⟨h1,h2,h3,h4,h5,h6,h7⟩:=h;refine aT func94 ntmps94 ?_;simp only[cr,hJ]
 (repeat' (first|refine aB fun K hK=>?_|refine aC ?_|(with_reducible refine gR 1 ?_);refine dE 1 [0,1,2,3,4,5,6,7,8,9,10,11,12,13,14,15,16,17,18,19,20] mixed ?_|(refine hK _ _ ?_;clear hK K)|(refine aA ?_ ?_<;>intro hc<;>try exact jz)|refine aD ?_|exact jI|(clear hK K)))
 (refine bH [.tmp 4] ?_;try simp only[go_sem])
 rfl
theorem iF(r:Rd)(t:ByteArray)(h:oA r):aj prog 145 [pR,rS t] (cr r) (fun v l=>v=.bj []/\l=cr (r.ap t)):=by
 have his:=gk r t h;have hf:=ui r 20 h;obtain⟨h1,h2,h3,h4,h5,h6,h7⟩:=h;simp only[cr,hJ]at his hf;refine aT func145 ntmps145 ?_;simp only[cr,hJ]
 (repeat' (first|refine aB fun K hK=>?_|refine aC ?_|(refine hK _ _ ?_;clear hK K)|(refine aA ?_ ?_<;>intro hc<;>try exact jz)|refine cm (his) ?_|refine cm (hf) ?_|refine aD ?_|exact jI|(clear hK K)))
 ·(refine bW [] ?_ ?_<;>(try simp only[go_sem]))
  simp only[Rd.ap,hc,Bool.false_eq_true,if_false,go_sem]
 ·(refine bW [] ?_ ?_<;>(try simp only[go_sem]))
  simp only[Rd.ap,hc,if_true];rfl
theorem uy(r:Rd)(h:oA r):aj prog 146 [pR] (cr r) (fun v l=>v=rS r.name.2/\l=cr r.name.1):=by
 have his:=vN r 3 h;have hf:=ui r 20 h;obtain⟨h1,h2,h3,h4,h5,h6,h7⟩:=h;simp only[cr,hJ]at his hf;refine aT func146 ntmps146 ?_;simp only[cr,hJ]
 (repeat' (first|refine aB fun K hK=>?_|refine aC ?_|(with_reducible refine gR 6 ?_);refine dE 6 [0,1,2,3,4,5,6,7,8,9,10,11,12] mixed ?_|(refine hK _ _ ?_;clear hK K)|(refine aA ?_ ?_<;>intro hc<;>try exact jz)|refine cm (his) ?_|refine cm (hf) ?_|refine aD ?_|exact jI|(clear hK K)))
 ·(refine bW [.tmp 2] ?_ ?_<;>(try simp only[go_sem]))
  ·simp only[Rd.name,hc,Bool.false_eq_true,if_false]
  ·simp only[Rd.name,hc,Bool.false_eq_true,if_false,go_sem]
 ·(refine bW [.tmp 2] ?_ ?_<;>(try simp only[go_sem]))
  ·simp only[Rd.name,hc,if_true];rw[show r.i+1-1=r.i from jB];rfl
  ·simp only[Rd.name,hc,if_true];rfl
theorem gT(r:Rd)(h:oA r):aj prog 144 [pR] (cr r) (fun v l=>v=rI r.cz/\l=cr r):=by
 obtain⟨h1,h2,h3,h4,h5,h6,h7⟩:=h;refine aT func144 ntmps144 ?_;simp only[cr,hJ]
 (repeat' (first|refine aB fun K hK=>?_|refine aC ?_|(with_reducible refine gR 1 ?_);refine dE 1 [0,1,2,3,4,5,6,7,8,9,10,11,12,13,14,15,16] mixed ?_|(refine hK _ _ ?_;clear hK K)|(refine aA ?_ ?_<;>intro hc<;>try exact jz)|refine cp (KE _ _ jB) ?_|refine aD ?_|exact jI|(clear hK K)))
 (refine bW [.tmp 2] ?_ ?_<;>(try simp only[go_sem]))
 rfl
theorem xw(r:Rd)(k ln n:Int)(nm:ByteArray)(L:List Int)(h:oA r):aj prog 215 [pR,rI k,rI ln,rI n,rS nm,bp eI 1 L] (cr r) (fun v l=>v=rI (r.put k ln n nm L).2/\l=cr (r.put k ln n nm L).1):=by
 obtain⟨h1,h2,h3,h4,h5,h6,h7⟩:=h;refine aT func215 ntmps215 ?_;simp only[cr,hJ]
 (repeat' (first|refine aB fun K hK=>?_|refine aC ?_|(refine hK _ _ ?_;clear hK K)|(refine aA ?_ ?_<;>intro hc<;>try exact jz)|refine aD ?_|exact jI|(clear hK K)))
 (refine bW [.tmp 12] ?_ ?_<;>(try simp only[go_sem]))
 ·simp only[Rd.put];exact O9 jB
 ·simp only[Rd.put,Rd.node,List.map_append,List.length_append,List.length_cons,List.length_nil];rfl
theorem tG(r:Rd)(h:oA r):aj prog 213 [pR] (cr r) (fun v l=>v=.bj []/\l=cr r.down):=by
 have hf:=ui r 21 h;obtain⟨h1,h2,h3,h4,h5,h6,h7⟩:=h;simp only[cr,hJ]at hf;refine aT func213 ntmps213 ?_;simp only[cr,hJ]
 (repeat' (first|refine aB fun K hK=>?_|refine aC ?_|(refine hK _ _ ?_;clear hK K)|(refine aA ?_ ?_<;>intro hc<;>try exact jz)|refine cm (hf) ?_|refine aD ?_|exact jI|(clear hK K)))
 ·(refine bW [] ?_ ?_<;>(try simp only[go_sem]))
  simp only[Rd.down,if_pos hc,go_sem]
 ·(refine bW [] ?_ ?_<;>(try simp only[go_sem]))
  simp only[Rd.down];rw[jN]
theorem qR(r:Rd)(h:oA r):aj prog 211 [pR] (cr r) (fun v l=>v=rS r.word/\l=cr r):=by
 have his:=vN r 4 h;obtain⟨h1,h2,h3,h4,h5,h6,h7⟩:=h;simp only[cr,hJ]at his;refine aT func211 ntmps211 ?_;simp only[cr,hJ]
 (repeat' (first|refine aB fun K hK=>?_|refine aC ?_|(with_reducible refine gR 3 ?_);refine dE 3 [0,1,2,3,4,5,6,7,8,9,10,11] mixed ?_|(refine hK _ _ ?_;clear hK K)|(refine aA ?_ ?_<;>intro hc<;>try exact jz)|refine cm (his) ?_|refine aD ?_|exact jI|(clear hK K)))
 ·(refine bW [.tmp 2] ?_ ?_<;>(try simp only[go_sem]))
  simp only[Rd.word,hc,if_true];rfl
 ·(refine bW [.tmp 2] ?_ ?_<;>(try simp only[go_sem]))
  simp only[Rd.word,hc,Bool.false_eq_true,if_false]
theorem Oj(r:Rd)(h:oA r)(hn:r.kind 3=true->r.i+1<r.l.length):aj prog 269 [pR] (cr r) (fun v l=>v=rB r.calls/\l=cr r):=by
 have his:=vN r 3 h;obtain⟨h1,h2,h3,h4,h5,h6,h7⟩:=h;simp only[cr,hJ]at his;refine aT func269 ntmps269 ?_;simp only[cr,hJ]
 (repeat' (first|refine aB fun K hK=>?_|refine aC ?_|(with_reducible refine gR 2 ?_);refine dE 2 [0,1,2,3,4,5,6,7,8,9,10,11,12,13,14,15,16,17,18,19,20,21,22,23,24,25,26,27,28,29,30,31] mixed ?_|(refine hK _ _ ?_;clear hK K)|(refine aA ?_ ?_<;>intro hc<;>try exact jz)|refine cm (his) ?_|refine aD ?_|exact jI|(clear hK K)))
 refine⟨fun h=>⟨h,jB,hn h⟩,fun h=>⟨h,jB,hn (by simp only[Bool.and_eq_true]at h;exact h.1)⟩,?_⟩
 (repeat' (first|refine aB fun K hK=>?_|refine aC ?_|(refine hK _ _ ?_;clear hK K)|(refine aA ?_ ?_<;>intro hc<;>try exact jz)|refine aD ?_|exact jI|(clear hK K)))
 (refine bH [.tmp 2] ?_;try simp only[go_sem])
 rfl
theorem Pc(lv:Int):eG prog 290 [rI lv] (bp eS 1 (ni lv)):=by
 refine fm func290 ntmps290 ?_
 (repeat' (first|refine aB fun K hK=>?_|refine aC ?_|(refine hK _ _ ?_;clear hK K)|(refine aA ?_ ?_<;>intro hc<;>try exact jz)|refine aD ?_|exact jI|(clear hK K)))
 all_goals refine l6 [.tmp 2] ?_
 all_goals simp only[ni, *,if_true,if_false,Int.reduceEq,if_pos,if_neg,not_false_eq_true]
 all_goals exact .lit _ _ _ _ _
theorem PE(lv:Int):(ni lv).length<=4/\∀s∈ni lv,s≠⟨#[]⟩:=by
 unfold ni;split
 ·decide
 ·split
  ·decide
  ·split
   ·decide
   ·split<;>decide
theorem Hm(r:Rd)(lv:Int)(h:oA r):aj prog 283 [pR,rI lv] (cr r) (fun v l=>v=rS (r.next lv)/\l=cr r):=by
 have his:=fun t=>gk r t h
 have hl:=PE lv;obtain⟨h1,h2,h3,h4,h5,h6,h7⟩:=h;simp only[cr,hJ]at his;refine aT func283 ntmps283 ?_;simp only[cr,hJ]
 (repeat' (first|refine aB fun K hK=>?_|refine aC ?_|(refine hK _ _ ?_;clear hK K)|(refine aA ?_ ?_<;>intro hc<;>try exact jz)|refine cp (Pc lv) ?_|refine aD ?_|exact jI|(clear hK K)))
 have hKo:=hK;clear hK;refine fi (S:=Nat) [(4,1),(6,2),(10,17)] (fun k=>k<=(ni lv).length/\∀j,j<k->r.is (nth (ni lv) j)=false) (fun k=>[(6,rI k)]) (fun _=>⟨[0,1],cr r⟩) (fun k=>(ni lv).length-k) 0 ⟨jB,fun j h=>jB⟩ (fj rfl cQ) ?_;rintro k ⟨hk1,hk2⟩ Kr hKr;simp only[cr,hJ]
 (refine S ?_;try exact jI)
 (repeat' (first|refine aB fun K hK=>?_|refine aC ?_|(refine hK _ _ ?_;clear hK K)|(refine aA ?_ ?_<;>intro hc<;>try exact jz)|refine cm (his _) ?_|refine hKo _ _ ?_|refine aD ?_|exact jI|(clear hK K)))
 ·(refine bW [.tmp 4] ?_ ?_<;>(try simp only[go_sem]))
  have:(ni lv).find? (fun s=>r.is s)=some (nth (ni lv) k):=yM hk2 jB hc;simp only[Rd.next,this]
 ·refine hKr _ _ (fw (k+1) ⟨jB,fun j hj=>?_⟩ jJ rfl cQ);by_cases e:j=k
  ·subst e;exact hc
  ·exact hk2 j jB
 ·(refine bW [.tmp 4] ?_ ?_<;>(try simp only[go_sem]))
  have:(ni lv).find? (fun s=>r.is s)=none:=zJ fun j hj=>hk2 j jB
  simp only[Rd.next,this]
theorem Ji{P:Program}{f:FuncId}{args args':List AV}{l:List (Nat×Row)}{R:AV->List (Nat×Row)->Prop}(hl:py args args')(h:aj P f args' l R):aj P f args l R:=fun w vs h1 h2=>by
 obtain⟨hlen,hg⟩:=hl.get;refine h w vs h1 ⟨hlen.symm.trans h2.1,fun i a v ha hv=>?_⟩;have hi:i<args.length:=by rw[hlen];exact(List.getElem?_eq_some_iff.1 ha).1
 exact hg i args[i] a (List.getElem?_eq_getElem hi) ha w v (h2.2 i _ v (List.getElem?_eq_getElem hi) hv)
theorem lf(r:Rd)(k ln n:Int)(nm:ByteArray)(L:List Int)(a:AV)(ha:gB a (bp eI 1 L))(h:oA r):aj prog 215 [pR,rI k,rI ln,rI n,rS nm,a] (cr r) (fun v l=>v=rI (r.put k ln n nm L).2/\l=cr (r.put k ln n nm L).1):=
 Ji (args':=[pR,rI k,rI ln,rI n,rS nm,bp eI 1 L]) ⟨gB.refl _,gB.refl _,gB.refl _,gB.refl _,gB.refl _,ha,trivial⟩ (xw r k ln n nm L h)
def Bf(n:Nat):Prop:=∀r:Rd,r.Inv->8*r.rem+1<=n->aj prog 289 [pR] (cr r) (fun v l=>v=rI (qm n r).2/\l=cr (qm n r).1)
def xK(n:Nat):Prop:=∀r:Rd,r.Inv->8*r.rem+2<=n->aj prog 282 [pR] (cr r) (fun v l=>v=rI (iq n r).2/\l=cr (iq n r).1)
def zi(n:Nat):Prop:=∀(lv:Nat) (r:Rd),lv<=5->r.Inv->8*r.rem+8-lv<=n->aj prog 271 [pR,rI lv] (cr r) (fun v l=>v=rI (dV n lv r).2/\l=cr (dV n lv r).1)
theorem O5(n:Nat)(ha:Bf n)(hf:xK n):xK (n+1):=by
 intro r h hn;have sg:∀t,r.is t=true->r.e=0/\r.down.Inv/\r.down.inc.Inv/\r.down.inc.rem+1<=r.rem:=fun t ht=>by
  obtain⟨he,hk⟩:=Rd.aU ht;obtain⟨h1,h2,h3,h4,_⟩:=Rd.bK h he;have htk:r.down.tok=r.tok:=by unfold Rd.tok;rw[h3,h4]
  obtain⟨s1,e1⟩:=Rd.bn h1 (by rw[htk];exact hk);have:=s1.inv h1;have hb:=Rd.behind h1 (by rw[htk];exact hk);refine⟨he,h1,this,?_⟩;unfold Rd.rem;rw[if_pos he];have:r.down.inc.i=r.i+1:=by show r.down.i+1=_;rw[h3]
  have hl:r.down.inc.l=r.l:=h4;rw[this,hl];rw[h3,h4]at hb;split<;>omega
 by_cases hm:r.is (⟨#[45]⟩:ByteArray)=true
 ·obtain⟨he,h1,h2,h3⟩:=sg _ hm;have s2:=(rG n).2.1 _ h2;have h4:=s2.inv h2;have h5:(iq n r.down.inc).1.up.Inv:=(Rd.fq h he ((Rd.bn h1 (by obtain⟨_,_,h3,h4,_⟩:=Rd.bK h he;unfold Rd.tok;rw[h3,h4];exact(Rd.aU hm).2)).1.trans s2)).inv h;have hd1:=h2.oT;have hd2:=h2.pM;have hi1:=h1.lt;have hi2:=h1.len;have hi3:=h1.pos;have hd3:=h4.oT;have hd4:=h4.pM;rw[iq,if_pos hm];refine aT func282 ntmps282 ?_
  (refine S ?_;try exact jI)
  (have W:=hm;repeat' (first|refine aB fun K hK=>?_|refine aC ?_|(refine hK _ _ ?_;clear hK K)|(refine aA ?_ ?_<;>intro hc<;>try exact jz)|refine cm (gT r (bw h)) ?_|refine cm (gk r _ (bw h)) ?_|refine cm (tG r (bw h)) ?_|refine cm (hf r.down.inc h2 jB) ?_|refine cm (lf (iq n r.down.inc).1.up _ _ _ _ [(iq n r.down.inc).2] _ gB.sl (bw h5)) ?_|refine aD ?_|exact jI|(clear hK K)));all_goals(try clear W)
  (refine bW [.tmp 2] ?_ ?_<;>(try simp only[go_sem]))
 ·have hmf:r.is (⟨#[45]⟩:ByteArray)=false:=by simpa using hm
  by_cases hq:r.is (⟨#[33]⟩:ByteArray)=true
  ·obtain⟨he,h1,h2,h3⟩:=sg _ hq;have s2:=(rG n).2.1 _ h2;have h4:=s2.inv h2;have h5:(iq n r.down.inc).1.up.Inv:=(Rd.fq h he ((Rd.bn h1 (by obtain⟨_,_,h3,h4,_⟩:=Rd.bK h he;unfold Rd.tok;rw[h3,h4];exact(Rd.aU hq).2)).1.trans s2)).inv h;have hd1:=h2.oT;have hd2:=h2.pM;have hi1:=h1.lt;have hi2:=h1.len;have hi3:=h1.pos;have hd3:=h4.oT;have hd4:=h4.pM;rw[iq,if_neg hm,if_pos hq];refine aT func282 ntmps282 ?_
   (refine S ?_;try exact jI)
   (have W:=jA hmf hq;repeat' (first|refine aB fun K hK=>?_|refine aC ?_|(refine hK _ _ ?_;clear hK K)|(refine aA ?_ ?_<;>intro hc<;>try exact jz)|refine cm (gT r (bw h)) ?_|refine cm (gk r _ (bw h)) ?_|refine cm (tG r (bw h)) ?_|refine cm (hf r.down.inc h2 jB) ?_|refine cm (lf (iq n r.down.inc).1.up _ _ _ _ [(iq n r.down.inc).2] _ gB.sl (bw h5)) ?_|refine aD ?_|exact jI|(clear hK K)));all_goals(try clear W)
   (refine bW [.tmp 2] ?_ ?_<;>(try simp only[go_sem]))
  ·have hqf:r.is (⟨#[33]⟩:ByteArray)=false:=by simpa using hq
   rw[iq,if_neg hm,if_neg hq];refine aT func282 ntmps282 ?_
   (refine S ?_;try exact jI)
   (have W:=jA hmf hqf;repeat' (first|refine aB fun K hK=>?_|refine aC ?_|(refine hK _ _ ?_;clear hK K)|(refine aA ?_ ?_<;>intro hc<;>try exact jz)|refine cm (gT r (bw h)) ?_|refine cm (gk r _ (bw h)) ?_|refine cm (ha r h jB) ?_|refine aD ?_|exact jI|(clear hK K)));all_goals(try clear W)
   (refine bW [.tmp 2] ?_ ?_<;>(try simp only[go_sem]))
theorem OL(n:Nat)(hf:xK n)(hcc:∀m,m<=n->zi m):zi (n+1):=by
 intro lv r hlv h hn;have hch:∀(m:Nat) (q:Rd),m<=n->lv+1<=5->q.Inv->8*q.rem+7-lv<=m->aj prog 271 [pR,rI ((lv:Int)+1)] (cr q) (fun v l=>v=rI (dV m (lv+1) q).2/\l=cr (dV m (lv+1) q).1):=fun m q hm hl hq hr=>by have:=hcc m hm (lv+1) q hl hq jB;rw[show((lv+1:Nat):Int)=(lv:Int)+1 from jB]at this;exact this
 by_cases h5:lv=5
 ·subst h5;rw[dV,if_pos rfl];refine aT func271 ntmps271 ?_
  (refine S ?_;try exact jI)
  (repeat' (first|refine aB fun K hK=>?_|refine aC ?_|(refine hK _ _ ?_;clear hK K)|(refine aA ?_ ?_<;>intro hc<;>try exact jz)|refine cm (hf r h jB) ?_|refine aD ?_|exact jI|(clear hK K)))
  (refine bW [.tmp 4] ?_ ?_<;>(try simp only[go_sem]))
 ·rw[dV,if_neg h5];have s1:=(rG n).2.2.1 (lv+1) r h;have h1:=s1.inv h;have hr1:=s1.rem;refine aT func271 ntmps271 ?_
  (refine S ?_;try exact jI)
  (repeat' (first|refine aB fun K hK=>?_|refine aC ?_|(refine hK _ _ ?_;clear hK K)|(refine aA ?_ ?_<;>intro hc<;>try exact jz)|refine cm (gT r (bw h)) ?_|refine cm (hch n r jl jB h jB) ?_|refine aD ?_|exact jI|(clear hK K)))
  refine fi (S:=Nat×Rd×Int) [(4,1),(6,3),(19,27)] (fun s=>s.2.1.Inv/\8*s.2.1.rem+7-lv<=s.1/\s.1<=n/\oo s.1 lv r.cz s.2=oo n lv r.cz (dV n (lv+1) r)) (fun s=>[(6,rI s.2.2)]) (fun s=>⟨[0,1],cr s.2.1⟩) (fun s=>s.1) (n,dV n (lv+1) r) ⟨h1,jJ,Nat.le_refl _,rfl⟩ (fj rfl cQ) ?_;rintro⟨m,q,x⟩ ⟨hq,hm1,hm2,hm3⟩ Kr hKr;simp only at hq hm1 hm2 hm3;rw[<-hm3];obtain⟨m,rfl⟩:∃k,m=k+1:=⟨m-1,jB⟩;have hql:=hq.lt;have hqp:=hq.pos;have hqn:=hq.len;by_cases hx:q.next lv=⟨#[]⟩
  ·rw[oo,if_pos hx]
   (refine S ?_;try exact jI)
   (have W:=hx;repeat' (first|refine aB fun K hK=>?_|refine aC ?_|(refine hK _ _ ?_;clear hK K)|(refine aA ?_ ?_<;>intro hc<;>try exact jz)|refine cm (Hm q lv (bw hq)) ?_|refine aD ?_|exact jI|(clear hK K)));all_goals(try clear W)
   (refine bW [.tmp 4] ?_ ?_<;>(try simp only[go_sem]))
  ·have hk:=Rd.aU (Rd.lE hx);obtain⟨t1,e1⟩:=Rd.bn hq hk.2;have hi:=t1.inv hq;have hri:=Rd.cX hq hk;have t2:=(rG m).2.2.1 (lv+1) _ hi;have hj:=t2.inv hi;have hrj:=t2.rem;have t3:=fun L=>Rd.cS (t1.trans t2) (by have:=t2.dM;omega) 9 r.cz 0 (q.next lv) L
   rw[oo,if_neg hx]
   (refine S ?_;try exact jI)
   (have W:=hx;repeat' (first|refine aB fun K hK=>?_|refine aC ?_|(refine hK _ _ ?_;clear hK K)|(refine aA ?_ ?_<;>intro hc<;>try exact jz)|refine cm (Hm q lv (bw hq)) ?_|refine cm (hch m q.inc jB jB hi jB) ?_|refine cm (lf (dV m (lv+1) q.inc).1 _ _ _ _ [x,(dV m (lv+1) q.inc).2] _ gB.sl (bw hj)) ?_|refine aD ?_|exact jI|(clear hK K)));all_goals(try clear W)
   ·have h2:lv=2:=jB
    (refine bW [.tmp 4] ?_ ?_<;>(try simp only[go_sem]))
    ·simp only[if_pos h2]
    ·simp only[if_pos h2]
   ·have h2:¬lv=2:=jB;refine hKr _ _ (fw (m,(dV m (lv+1) q.inc).1.put 9 r.cz 0 (q.next lv) [x,(dV m (lv+1) q.inc).2]) ⟨(t3 _).inv hq,?_,jJ,?_⟩ jJ rfl cQ)
    ·have h6:∀L,((dV m (lv+1) q.inc).1.put 9 r.cz 0 (q.next lv) L).1.rem=(dV m (lv+1) q.inc).1.rem:=fun L=>rfl
     simp only[h6];omega
    ·rw[<-hm3,oo,if_neg hx,if_neg h2]
end Go.Proofs.YtfkgcobaheegbaaGreatDoor
