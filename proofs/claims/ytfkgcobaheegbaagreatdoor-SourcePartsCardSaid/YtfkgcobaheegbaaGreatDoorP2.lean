/- The document's lexer: bytes, words, spans. The document's lexer: tokens. The document's lexer: all. The document's parser: its small methods. The document's parser: expressions. No conditions. -/
import Derived.Test.YtfkgcobaheegbaaGreatDoorGdTm
import Derived.Test.YtfkgcobaheegbaaGreatDoorLxT
set_option linter.all false
namespace Go.Proofs.YtfkgcobaheegbaaGreatDoor
open Go Go.Gd
abbrev rI (n:Int):AV:=.raw (.int .i64 n)
abbrev rU (n:Int):AV:=.raw (.int .u8 n)
abbrev rS (s:ByteArray):AV:=.raw (.string s)
abbrev rB (b:Bool):AV:=.raw (.bool b)
set_option maxRecDepth 10000 in
theorem jhS (n:Int):PCall Tryz.prog 203 [rU n] (rB (jbv n)):=by
 refine jbA Tryz.func203 Tryz.ntmps203 ?_
 (repeat' (first|refine jaa fun K hK=>?_|refine wkA ?_|(refine hK _ _ ?_;clear hK K)|(refine jad (fun hc=>?_) (fun hc=>?_)<;>first | contradiction | (exfalso;omega) | skip)|refine wkB ?_|exact True.intro|(clear hK K)))
 (refine jbM [.tmp 2] ?_ ?_<;>(try simp only [go_sem]))
 rfl
set_option maxRecDepth 10000 in
theorem jkd (n:Int):PCall Tryz.prog 205 [rU n] (rB (jfO n)):=by
 refine jbA Tryz.func205 Tryz.ntmps205 ?_
 (repeat' (first|refine jaa fun K hK=>?_|refine wkA ?_|(refine hK _ _ ?_;clear hK K)|(refine jad (fun hc=>?_) (fun hc=>?_)<;>first | contradiction | (exfalso;omega) | skip)|refine wkB ?_|exact True.intro|(clear hK K)))
 (refine jbM [.tmp 2] ?_ ?_<;>(try simp only [go_sem]))
 rfl
set_option maxRecDepth 10000 in
theorem jsx (s:ByteArray):PCall Tryz.prog 204 [rS s] (rB (jp6 s)):=by
 refine jbA Tryz.func204 Tryz.ntmps204 ?_
 (repeat' (first|refine jaa fun K hK=>?_|refine wkA ?_|(refine hK _ _ ?_;clear hK K)|(refine jad (fun hc=>?_) (fun hc=>?_)<;>first | contradiction | (exfalso;omega) | skip)|refine wkB ?_|exact True.intro|(clear hK K)))
 (refine jbM [.tmp 2] ?_ ?_<;>(try simp only [go_sem]))
 rfl
set_option maxRecDepth 10000 in
theorem jx9 (s:ByteArray) (at_:Int) (hs:s.size≤1000000):PCall Tryz.prog 209 [rS s,rI at_] (rI (jej s (min s.size at_.toNat))):=by
 refine jbA Tryz.func209 Tryz.ntmps209 ?_
 (repeat' (first|refine jaa fun K hK=>?_|refine wkA ?_|(refine hK _ _ ?_;clear hK K)|(refine jad (fun hc=>?_) (fun hc=>?_)<;>first | contradiction | (exfalso;omega) | skip)|refine wkB ?_|exact True.intro|(clear hK K)))
 have hKo:=hK;clear hK
 refine jah (S:=Nat) [(5,19)] (fun k=>k≤s.size∧k≤at_.toNat) (fun k=>[(5,rI (jej s k)),(6,rI k)]) (fun _=>⟨[],[]⟩) (fun k=>s.size - k) 0 (by omega) (jaE rfl (by simp only [go_sem,LLe,Nat.reduceAdd,AV.raw.injEq,Value.int.injEq,Value.slice.injEq,Value.pointer.injEq,AV.rs.injEq,jej];try omega)) ?_
 rintro k ⟨hk1,hk2⟩ Kr hKr
 have hb:=jlh s k
 (refine S ?_;try exact True.intro)
 (repeat' (first|refine jaa fun K hK=>?_|refine wkA ?_|(refine hK _ _ ?_;clear hK K)|(refine jad (fun hc=>?_) (fun hc=>?_)<;>first | contradiction | (exfalso;omega) | skip)|(refine hKo _ _ ?_)|refine wkB ?_|exact True.intro|(clear hK K)))
 ·refine hKr _ _ (jau (k+1) (by omega) (by (try simp only);omega) rfl (by simp only [jej,if_pos hc];exact lle))
 ·refine hKr _ _ (jau (k+1) (by omega) (by (try simp only);omega) rfl (by simp only [jej,if_neg hc];exact lle))
 ·(refine jbM [.tmp 4] ?_ ?_<;>(try simp only [go_sem]))
  rw [show min s.size at_.toNat=k by omega]
theorem j1c {s:ByteArray} (h:∀ j,j < kwords.length→nth kwords j≠s):jwI s=false:=by
 unfold jwI
 rw [List.any_eq_false]
 intro x hm
 obtain ⟨j,hj,rfl⟩:=List.getElem_of_mem hm
 have:=h j hj
 rw [jbl hj] at this
 simp [this]
theorem jx2 {s:ByteArray} {k:Nat} (hk:k < kwords.length) (h:nth kwords k=s):jwI s=true:=by
 unfold jwI
 rw [List.any_eq_true]
 exact ⟨kwords[k],List.getElem_mem hk,by rw [jbl hk] at h;simp [h]⟩
set_option maxRecDepth 10000 in
theorem jy6 (s:ByteArray):PCall Tryz.prog 206 [rS s] (rB (jwI s)):=by
 refine jbA Tryz.func206 Tryz.ntmps206 ?_
 (repeat' (first|refine jaa fun K hK=>?_|refine wkA ?_|(refine hK _ _ ?_;clear hK K)|(refine jad (fun hc=>?_) (fun hc=>?_)<;>first | contradiction | (exfalso;omega) | skip)|refine wkB ?_|exact True.intro|(clear hK K)))
 have hKo:=hK;clear hK
 refine jah (S:=Nat) [(2,1),(4,1),(6,12)] (fun k=>k≤16∧∀ j,j < k→nth kwords j≠s) (fun k=>[(3,.sl true 1 (kwords.map eS) []),(4,rI k)]) (fun _=>⟨[],[]⟩) (fun k=>16 - k) 0 ⟨by omega,fun j h=>by omega⟩ (jaE rfl (by (repeat' (first | exact True.intro | exact Or.inr rfl | exact Or.inl rfl | refine And.intro ?_ ?_)))) ?_
 rintro k ⟨hk1,hk2⟩ Kr hKr
 have hl:=joP
 (refine S ?_;try exact True.intro)
 (repeat' (first|refine jaa fun K hK=>?_|refine wkA ?_|(refine hK _ _ ?_;clear hK K)|(refine jad (fun hc=>?_) (fun hc=>?_)<;>first | contradiction | (exfalso;omega) | skip)|(refine hKo _ _ ?_)|refine wkB ?_|exact True.intro|(clear hK K)))
 ·(refine jbM [.tmp 2] ?_ ?_<;>(try simp only [go_sem]))
  rw [jx2 (by omega) hc]
 ·refine hKr _ _ (jau (k+1) ⟨by omega,fun j hj=>?_⟩ (by (try simp only);omega) rfl lle)
  by_cases e:j=k
  ·subst e;exact hc
  ·exact hk2 j (by omega)
 ·(refine jbM [.tmp 2] ?_ ?_<;>(try simp only [go_sem]))
  rw [j1c fun j hj=>hk2 j (by omega)]
set_option maxRecDepth 10000 in
theorem jtV (s:ByteArray) (i:Nat) (hs:s.size≤1000000) (hi:i≤s.size):PCall Tryz.prog 142 [rS s,rI i] (rI (skE s i:Nat)):=by
 refine jbA Tryz.func142 Tryz.ntmps142 ?_
 (repeat' (first|refine jaa fun K hK=>?_|refine wkA ?_|(refine hK _ _ ?_;clear hK K)|(refine jad (fun hc=>?_) (fun hc=>?_)<;>first | contradiction | (exfalso;omega) | skip)|refine wkB ?_|exact True.intro|(clear hK K)))
 have hKo:=hK;clear hK
 refine jah (S:=Nat) [(1,1),(4,54)] (fun k=>k≤s.size∧skE s k=skE s i) (fun k=>[(1,rI k)]) (fun _=>⟨[],[]⟩) (fun k=>s.size - k) i ⟨hi,rfl⟩ (jaE rfl lle) ?_
 rintro k ⟨hk1,hk2⟩ Kr hKr
 (refine S ?_;try exact True.intro)
 (repeat' (first|refine jaa fun K hK=>?_|refine wkA ?_|(refine hK _ _ ?_;clear hK K)|(refine jad (fun hc=>?_) (fun hc=>?_)<;>first | contradiction | (exfalso;omega) | skip)|(refine hKo _ _ ?_)|refine wkB ?_|exact True.intro|(clear hK K)))
 ·have hst:jcW s k=some (k+1):=by
   unfold jcW
   rw [if_pos (by omega),if_pos]
   simp [jzL];omega
  refine hKr _ _ (jau (k+1) ⟨by omega,by rw [← hk2,joc hst]⟩ (by (try simp only);omega) rfl lle)
 ·have hst:jcW s k=some (jcz jtO s k):=by
   unfold jcW
   rw [if_pos (by omega),if_neg (by simp [jzL];omega),if_pos]
   simp [jsi];exact ⟨⟨hc.1.1,by omega⟩,hc.2⟩
  have hlt:=jf4 hst
  have hKi:=hK;clear hK
  refine jah (S:=Nat) [(1,1),(45,12)] (fun m=>k≤m∧m≤s.size∧∀ j,k≤j→j < m→jtO (jaL s j)=true) (fun m=>[(1,rI m)]) (fun _=>⟨[],[]⟩) (fun m=>s.size - m) k ⟨by omega,by omega,fun j h1 h2=>by omega⟩ (jaE rfl lle) ?_
  rintro m ⟨hm1,hm2,hm3⟩ Kj hKj
  (refine S ?_;try exact True.intro)
  (repeat' (first|refine jaa fun K hK=>?_|refine wkA ?_|(refine hK _ _ ?_;clear hK K)|(refine jad (fun hc=>?_) (fun hc=>?_)<;>first | contradiction | (exfalso;omega) | skip)|(refine hKi _ _ ?_)|refine wkB ?_|exact True.intro|(clear hK K)))
  ·refine hKj _ _ (jau (m+1) ⟨by omega,by omega,fun j h1 h2=>?_⟩ (by (try simp only);omega) rfl lle)
   by_cases e:j=m
   ·subst e;simp only [jtO,decide_eq_true_eq];exact hc.2
   ·exact hm3 j h1 (by omega)
  ·have e:jcz jtO s k=m:=jhE (by simp only [jtO,decide_eq_true_eq];omega) hm1 hm2 hm3
   rw [e] at hst hlt
   refine hKr _ _ (jau m ⟨by omega,by rw [← hk2,joc hst]⟩ (by (try simp only);omega) rfl lle)
 ·(refine jbM [.tmp 4] ?_ ?_<;>(try simp only [go_sem]))
  rw [← hk2,job]
  unfold jcW
  rw [if_pos (by omega),if_neg (by simp [jzL];omega),if_neg]
  simp [jsi];omega
 ·(refine jbM [.tmp 4] ?_ ?_<;>(try simp only [go_sem]))
  rw [← hk2,job]
  unfold jcW
  rw [if_neg (by omega)]
set_option maxRecDepth 10000 in
theorem jyG (s:ByteArray) (a:Nat) (hs:s.size≤1000000) (ha:a < s.size):PCall Tryz.prog 207 [rS s,rI a] (.tup [rS (jgM s a).1,rI (jgM s a).2.1,rI (jgM s a).2.2]):=by
 refine jbA Tryz.func207 Tryz.ntmps207 ?_
 (repeat' (first|refine jaa fun K hK=>?_|refine wkA ?_|(refine hK _ _ ?_;clear hK K)|(refine jad (fun hc=>?_) (fun hc=>?_)<;>first | contradiction | (exfalso;omega) | skip)|refine wkB ?_|exact True.intro|(clear hK K)))
 have hKo:=hK;clear hK
 refine jah (S:=Nat) [(7,1),(10,24)] (fun m=>a+1≤m∧m≤s.size∧∀ j,a+1≤j→j < m→juU (jaL s j)=true) (fun m=>[(7,rI m)]) (fun _=>⟨[],[]⟩) (fun m=>s.size - m) (a+1) ⟨by omega,by omega,fun j h1 h2=>by omega⟩ (jaE rfl lle) ?_
 rintro m ⟨hm1,hm2,hm3⟩ Kr hKr
 (refine S ?_;try exact True.intro)
 (repeat' (first|refine jaa fun K hK=>?_|refine wkA ?_|(refine hK _ _ ?_;clear hK K)|(refine jad (fun hc=>?_) (fun hc=>?_)<;>first | contradiction | (exfalso;omega) | skip)|(refine hKo _ _ ?_)|refine wkB ?_|exact True.intro|(clear hK K)))
 ·refine hKr _ _ (jau (m+1) ⟨by omega,by omega,fun j h1 h2=>?_⟩ (by (try simp only);omega) rfl lle)
  by_cases e:j=m
  ·subst e;simp only [juU,Bool.and_eq_true,decide_eq_true_eq];exact ⟨⟨hc.1.1.2,hc.1.2⟩,hc.2⟩
  ·exact hm3 j h1 (by omega)
 all_goals have e:jcz juU s (a+1)=m:=jhE (by simp only [juU,Bool.and_eq_true,decide_eq_true_eq];omega) hm1 hm2 hm3
 ·(refine jbM [.tmp 4,.tmp 5,.tmp 6] ?_ ?_<;>(try simp only [go_sem]))
  simp only [jgM,e]
  rw [if_neg (by omega)]
 ·(refine jbM [.tmp 4,.tmp 5,.tmp 6] ?_ ?_<;>(try simp only [go_sem]))
  simp only [jgM,e]
  rw [if_pos (by omega),if_pos (by omega)]
 ·(refine jbM [.tmp 4,.tmp 5,.tmp 6] ?_ ?_<;>(try simp only [go_sem]))
  simp only [jgM,e]
  rw [if_pos (by omega),if_neg (by omega)]
theorem js8:twos.length=5:=rfl
set_option maxRecDepth 10000 in
theorem jyx (s:ByteArray) (hs:0 < s.size) (hs2:s.size≤1000000):PCall Tryz.prog 208 [rS s] (rS (jf3 s)):=by
 refine jbA Tryz.func208 Tryz.ntmps208 ?_
 (repeat' (first|refine jaa fun K hK=>?_|refine wkA ?_|(refine hK _ _ ?_;clear hK K)|(refine jad (fun hc=>?_) (fun hc=>?_)<;>first | contradiction | (exfalso;omega) | skip)|refine wkB ?_|exact True.intro|(clear hK K)))
 have hKo:=hK;clear hK
 refine jah (S:=Nat) [(2,1),(4,1),(8,22)] (fun k=>k≤5∧∀ j,j < k→jiZ s (nth twos j)=false) (fun k=>[(3,.sl true 1 (twos.map eS) []),(4,rI k)]) (fun _=>⟨[],[]⟩) (fun k=>5 - k) 0 ⟨by omega,fun j h=>by omega⟩ (jaE rfl (by (repeat' (first | exact True.intro | exact Or.inr rfl | exact Or.inl rfl | refine And.intro ?_ ?_)))) ?_
 rintro k ⟨hk1,hk2⟩ Kr hKr
 have hl:=js8
 (refine S ?_;try exact True.intro)
 (repeat' (first|refine jaa fun K hK=>?_|refine wkA ?_|(with_reducible refine gR 5 ?_);refine dE 5 [0,1,2,3,4,5,6,7,8,9,10,11] mixed ?_|(refine hK _ _ ?_;clear hK K)|(refine jad (fun hc=>?_) (fun hc=>?_)<;>first | contradiction | (exfalso;omega) | skip)|(refine hKo _ _ ?_)|refine wkB ?_|exact True.intro|(clear hK K)))
 ·(refine jbM [.tmp 2] ?_ ?_<;>(try simp only [go_sem]))
  have:twos.find? (jiZ s)=some (nth twos k):=jeJ hk2 (by omega) (by simp only [jiZ,Bool.and_eq_true,decide_eq_true_eq];exact hc)
  simp only [jf3,this]
 ·refine hKr _ _ (jau (k+1) ⟨by omega,fun j hj=>?_⟩ (by (try simp only);omega) rfl lle)
  by_cases e:j=k
  ·subst e;simp only [jiZ,Bool.and_eq_false_iff,decide_eq_false_iff_not,Int.not_le];exact hc
  ·exact hk2 j (by omega)
 ·have h2:twos.find? (jiZ s)=none:=jh2 fun j hj=>hk2 j (by omega)
  have hKo:=hK;clear hK
  have hos:onesS.size=16:=rfl
  refine jah (S:=Nat) [(2,1),(6,1),(30,17)] (fun k=>k≤16∧∀ j,j < k→decide (jaL s 0=jaL onesS (nth (List.range 16) j:Nat))=false) (fun k=>[(5,rS onesS),(6,rI k)]) (fun _=>⟨[],[]⟩) (fun k=>16 - k) 0 ⟨by omega,fun j h=>by omega⟩ (jaE rfl (by (repeat' (first | exact True.intro | exact Or.inr rfl | exact Or.inl rfl | refine And.intro ?_ ?_)))) ?_
  rintro m ⟨hm1,hm2⟩ Kj hKj
  (refine S ?_;try exact True.intro)
  (repeat' (first|refine jaa fun K hK=>?_|refine wkA ?_|(with_reducible refine gR 11 ?_);refine dE 11 [0,1,2,3,4,5] mixed ?_|(refine hK _ _ ?_;clear hK K)|(refine jad (fun hc=>?_) (fun hc=>?_)<;>first | contradiction | (exfalso;omega) | skip)|(refine hKo _ _ ?_)|refine wkB ?_|exact True.intro|(clear hK K)))
  ·(refine jbM [.tmp 2] ?_ ?_<;>(try simp only [go_sem]))
   have h3:(List.range 16).find? (fun k:Nat=>decide (jaL s 0=jaL onesS (k:Nat)))=some (nth (List.range 16) m):=jeJ hm2 (by simp;omega) (by rw [jif (by omega)];simpa using hc)
   simp only [jf3,h2,h3]
   rw [jif (by omega)]
  ·refine hKj _ _ (jau (m+1) ⟨by omega,fun j hj=>?_⟩ (by (try simp only);omega) rfl lle)
   by_cases e:j=m
   ·subst e;rw [jif (by omega)];simpa using hc
   ·exact hm2 j (by omega)
  ·(refine jbM [.tmp 2] ?_ ?_<;>(try simp only [go_sem]))
   have h3:(List.range 16).find? (fun k:Nat=>decide (jaL s 0=jaL onesS (k:Nat)))=none:=jh2 fun j hj=>hm2 j (by simp at hj;omega)
   simp only [jf3,h2,h3]
def jrD (t:GToken×Int×Int):AV:=.tup [.agg (jb4 t.1),rI t.2.1,rI t.2.2]
set_option maxHeartbeats 2000000 in
set_option maxRecDepth 10000 in
theorem j1e (s:ByteArray) (a:Nat) (hs:s.size≤1000000) (ha:a < s.size):PCall Tryz.prog 143 [rS s,rI a] (jrD (jby s a)):=by
 have hex:(s.extract a s.size).size=s.size - a:=by rw [ByteArray.size_extract];omega
 have hsz:=jo3 (s.extract a s.size)
 refine jbA Tryz.func143 Tryz.ntmps143 ?_
 (repeat' (first|refine jaa fun K hK=>?_|refine wkA ?_|(refine hK _ _ ?_;clear hK K)|(refine jad (fun hc=>?_) (fun hc=>?_)<;>first | contradiction | (exfalso;omega) | skip)|refine cp (jhS _) ?_|refine cp (jkd _) ?_|refine cp (jyG s a hs ha) ?_|refine cp (jyx _ (by omega) (by omega)) ?_|refine wkB ?_|exact True.intro|(clear hK K)))
 ·have hKo:=hK;clear hK
  refine jah (S:=Nat) [(8,1),(20,12)] (fun m=>a≤m∧m≤s.size∧∀ j,a≤j→j < m→jbv (jaL s j)=true) (fun m=>[(8,rI m)]) (fun _=>⟨[],[(0,.var 216 (jb4 jwW))]⟩) (fun m=>s.size - m) a ⟨by omega,by omega,fun j h1 h2=>by omega⟩ (jaE rfl lle) ?_
  rintro m ⟨hm1,hm2,hm3⟩ Kr hKr
  (refine S ?_;try exact True.intro)
  (repeat' (first|refine jaa fun K hK=>?_|refine wkA ?_|(refine hK _ _ ?_;clear hK K)|(refine jad (fun hc=>?_) (fun hc=>?_)<;>first | contradiction | (exfalso;omega) | skip)|(first | refine cg (jhS _) ?_ | refine cg' (jhS _) ?_)|(refine hKo _ _ ?_)|refine wkB ?_|exact True.intro|(clear hK K)))
  ·refine hKr _ _ (jau (m+1) ⟨by omega,by omega,fun j h1 h2=>?_⟩ (by (try simp only);omega) rfl lle)
   by_cases e:j=m
   ·subst e;exact hc.2
   ·exact hm3 j h1 (by omega)
  ·have hd:jbv (jaL s a)=true:=by assumption
   have e:jcz jbv s a=m:=jhE (by rintro ⟨h1,h2⟩;rcases hc with h | h;omega;rw [h2] at h;cases h) hm1 hm2 hm3
   (repeat' (first|refine jaa fun K hK=>?_|refine wkA ?_|(refine hK _ _ ?_;clear hK K)|(refine jad (fun hc=>?_) (fun hc=>?_)<;>first | contradiction | (exfalso;omega) | skip)|refine cp (jsx _) ?_|refine wkB ?_|exact True.intro|(clear hK K)))
   ·(refine jaN [.cell 4 216,.tmp 5,.tmp 6] ?_;try simp only [go_sem])
    simp only [jby,hd,if_true,e,if_neg,hc,Bool.false_eq_true,if_false,jrD,jwW]
    rfl
   ·(refine jaN [.cell 4 216,.tmp 5,.tmp 6] ?_;try simp only [go_sem])
    simp only [jby,hd,if_true,e,hc,jrD]
    rfl
 ·have hKo:=hK;clear hK
  have hnd:jbv (jaL s a)=false:=by assumption
  have hle:jfO (jaL s a)=true:=by assumption
  refine jah (S:=Nat) [(8,1),(49,24)] (fun m=>a≤m∧m≤s.size∧∀ j,a≤j→j < m→jpm (jaL s j)=true) (fun m=>[(8,rI m)]) (fun _=>⟨[],[(0,.var 216 (jb4 jwW))]⟩) (fun m=>s.size - m) a ⟨by omega,by omega,fun j h1 h2=>by omega⟩ (jaE rfl lle) ?_
  rintro m ⟨hm1,hm2,hm3⟩ Kr hKr
  have hexm:(s.extract a m).size=m - a:=by rw [ByteArray.size_extract];omega
  (refine S ?_;try exact True.intro)
  (repeat' (first|refine jaa fun K hK=>?_|refine wkA ?_|(refine hK _ _ ?_;clear hK K)|(refine jad (fun hc=>?_) (fun hc=>?_)<;>first | contradiction | (exfalso;omega) | skip)|(first | refine cg (jhS _) ?_ | refine cg' (jhS _) ?_)|(first | refine cg (jkd _) ?_ | refine cg' (jkd _) ?_)|refine cp (jy6 _) ?_|(refine hKo _ _ ?_)|refine wkB ?_|exact True.intro|(clear hK K)))
  ·refine hKr _ _ (jau (m+1) ⟨by omega,by omega,fun j h1 h2=>?_⟩ (by (try simp only);omega) rfl lle)
   by_cases e:j=m
   ·subst e;simp only [jpm,Bool.or_eq_true,decide_eq_true_eq];exact hc.2
   ·exact hm3 j h1 (by omega)
  all_goals
   have hcc:(s.size:Int)≤m∨(jfO (jaL s m)=false∧jbv (jaL s m)=false)∧¬jaL s m=95:=by assumption
   have e:jcz jpm s a=m:=jhE (by
    simp only [jpm,Bool.or_eq_true,decide_eq_true_eq]
    rintro ⟨h1,h2⟩
    rcases hcc with h | ⟨⟨h3,h4⟩,h5⟩
    ·omega
    ·rcases h2 with (h | h) | h
     ·rw [h] at h3;exact Bool.noConfusion h3
     ·rw [h] at h4;exact Bool.noConfusion h4
     ·exact h5 h) hm1 hm2 hm3
  ·(refine jaN [.cell 4 216,.tmp 5,.tmp 6] ?_;try simp only [go_sem])
   simp only [jby,hnd,hle,e,hc,Bool.false_eq_true,if_false,if_true,jrD]
   rfl
  ·(refine jaN [.cell 4 216,.tmp 5,.tmp 6] ?_;try simp only [go_sem])
   simp only [jby,hnd,hle,e, *,Bool.false_eq_true,if_false,if_true,jrD]
   rw [if_pos (by omega)]
   rfl
  ·(refine jaN [.cell 4 216,.tmp 5,.tmp 6] ?_;try simp only [go_sem])
   simp only [jby,hnd,hle,e, *,Bool.false_eq_true,if_false,if_true,jrD]
   rw [if_neg (by omega)]
   rfl
 ·(refine jaN [.cell 4 216,.tmp 5,.tmp 6] ?_;try simp only [go_sem])
  simp only [jby, *,Bool.false_eq_true,if_false,if_true,jrD]
  rfl
 ·(refine jaN [.cell 4 216,.tmp 5,.tmp 6] ?_;try simp only [go_sem])
  simp only [jby, *,Bool.false_eq_true,if_false,if_true,jrD]
  rfl
 ·(refine jaN [.cell 4 216,.tmp 5,.tmp 6] ?_;try simp only [go_sem])
  simp only [jby, *,Bool.false_eq_true,if_false,jrD]
  rfl
attribute [go_sem] jrD
set_option maxHeartbeats 2000000 in
set_option maxRecDepth 10000 in
theorem jx8 (s:ByteArray) (hs:s.size≤1000000):PCall Tryz.prog 93 [rS s] (.tup [jal jb4 3 (jcf s).1,rI (jcf s).2.1,rI (jcf s).2.2]):=by
 refine jbA Tryz.func93 Tryz.ntmps93 ?_
 (repeat' (first|refine jaa fun K hK=>?_|refine wkA ?_|(refine hK _ _ ?_;clear hK K)|(refine jad (fun hc=>?_) (fun hc=>?_)<;>first | contradiction | (exfalso;omega) | skip)|refine cp (jtV s 0 hs (Nat.zero_le _)) ?_|refine wkB ?_|exact True.intro|(clear hK K)))
 ·refine jlF [.tmp 2,.tmp 3,.tmp 4] ?_
  simp only [jcf,if_pos hc]
  refine VToL.tup ?_
  exact vtl
 ·have hKo:=hK;clear hK
  have h0:=jjD (s:=s) (i:=0) (Nat.zero_le _)
  refine jah (S:=Nat×List GToken) [(2,8),(16,22)] (fun p=>p.1≤s.size∧p.2.length≤p.1∧jwP s p.1 p.2=jcf s) (fun p=>[(5,.rs 0 p.2.length 3 p.2.length),(6,rI p.1)]) (fun p=>⟨[],[(0,.vec 216 3 (p.2.map jb4))]⟩) (fun p=>s.size - p.1) (skE s 0,[]) ⟨h0.2,Nat.zero_le _,by simp only [jcf];rw [if_neg (by omega)]⟩ (jaE rfl lle) ?_
  rintro ⟨k,ts⟩ ⟨hk1,hk2,hk3⟩ Kr hKr
  simp only at hk1 hk2 hk3
  (refine S ?_;try exact True.intro)
  by_cases hk:k < s.size
  ·have hend:=je0 (s:=s) (a:=k) hk
   (repeat' (first|refine jaa fun K hK=>?_|refine wkA ?_|(refine hK _ _ ?_;clear hK K)|(refine jad (fun hc=>?_) (fun hc=>?_)<;>first | contradiction | (exfalso;omega) | skip)|refine cp (j1e s k hs hk) ?_|refine wkB ?_|exact True.intro|(clear hK K)))
   ·refine jlF [.tmp 2,.tmp 3,.tmp 4] ?_
    rw [← hk3,jqd hk (by assumption)]
    refine VToL.tup ?_
    exact vtl
   ·obtain ⟨e,he1,he2,he3⟩:=hend hc
    have h4:=jjD he3
    rw [he1]
    (repeat' (first|refine jaa fun K hK=>?_|refine wkA ?_|(refine hK _ _ ?_;clear hK K)|(refine jad (fun hc=>?_) (fun hc=>?_)<;>first | contradiction | (exfalso;omega) | skip)|refine cp (jtV s e hs he3) ?_|refine wkB ?_|exact True.intro|(clear hK K)))
    refine hKr _ _ (jid [1] (skE s e,ts++[(jby s k).1]) ⟨h4.2,by simp;omega,by rw [← hk3,jqe hk hc,he1];simp⟩ (by (try simp only);omega) rfl Sd Sd vtl)
  ·(repeat' (first|refine jaa fun K hK=>?_|refine wkA ?_|(refine hK _ _ ?_;clear hK K)|(refine jad (fun hc=>?_) (fun hc=>?_)<;>first | contradiction | (exfalso;omega) | skip)|(refine hKo _ _ ?_)|refine wkB ?_|exact True.intro|(clear hK K)))
   refine jlF [.tmp 2,.tmp 3,.tmp 4] ?_
   rw [← hk3,jso hk]
   simp only [go_sem]
   refine VToL.tup ?_
   refine And.intro ?_ (And.intro (.same _ rfl) (And.intro (.same _ rfl) trivial))
   refine VTo.row (enc:=jb4) (e:=216) (ts++[⟨0,⟨#[]⟩,s.size⟩]) ?_ ?_ ?_
   ·rfl
   ·(refine S ?_;try exact True.intro)
    rfl
   ·(refine S ?_;try exact True.intro)
def ja5 (r:Rd):List AV:=[rS r.src,jal jb4 3 r.l,rI r.i,.rs 1 r.nodes.length 5 r.nodes.length,rI r.deep,rI r.e,rI r.at_]
def jbE (r:Rd):List (Nat×Row):=[(0,.var 167 (ja5 r)),(1,.vec 53 5 (r.nodes.map jao))]
attribute [go_sem] jbE ja5
abbrev pR:AV:=.pt 0 0 0 0
structure ROk (r:Rd):Prop where
 src:r.src.size≤1000
 pos:0≤r.i
 lt:r.i < r.l.length
 len:r.l.length≤2000
 dlo:-1000≤r.deep
 dhi:r.deep≤1000
 nodes:r.nodes.length≤100000
theorem rok {r:Rd} (h:r.Inv):ROk r:=by
 have hp:=h.pot
 unfold Rd.pot at hp
 have:=h.lt
 have:=h.dlo
 have:=h.dhi
 exact ⟨h.src,h.pos,h.lt,h.len,by omega,by omega,by split at hp<;>omega⟩
set_option maxHeartbeats 1000000 in
set_option maxRecDepth 10000 in
theorem jfj (r:Rd) (e:Int) (h:ROk r):ACalls Tryz.prog 210 [pR,rI e] (jbE r) (fun v l=>v=.tup []∧l=jbE (r.fails e)):=by
 obtain ⟨h1,h2,h3,h4,h5,h6,h7⟩:=h
 refine jaw Tryz.func210 Tryz.ntmps210 ?_
 simp only [jbE,ja5]
 (repeat' (first|refine jaa fun K hK=>?_|refine wkA ?_|(with_reducible refine gR 2 ?_);refine dE 2 [0,1,2,3,4,5,6,7,8,9,10,11,12,13,14] mixed ?_|(refine hK _ _ ?_;clear hK K)|(refine jad (fun hc=>?_) (fun hc=>?_)<;>first | contradiction | (exfalso;omega) | skip)|refine wkB ?_|exact True.intro|(clear hK K)))
 ·(refine jbM [] ?_ ?_<;>(try simp only [go_sem]))
  simp only [Rd.fails,if_pos hc];rfl
 ·(refine jbM [] ?_ ?_<;>(try simp only [go_sem]))
  simp only [Rd.fails,if_neg hc]
set_option maxHeartbeats 1000000 in
set_option maxRecDepth 10000 in
theorem jes (r:Rd) (t:ByteArray) (h:ROk r):ACalls Tryz.prog 147 [pR,rS t] (jbE r) (fun v l=>v=rB (r.is t)∧l=jbE r):=by
 obtain ⟨h1,h2,h3,h4,h5,h6,h7⟩:=h
 refine jaw Tryz.func147 Tryz.ntmps147 ?_
 simp only [jbE,ja5]
 (repeat' (first|refine jaa fun K hK=>?_|refine wkA ?_|(with_reducible refine gR 1 ?_);refine dE 1 [0,1,2,3,4,5,6,7,8,9,10,11] mixed ?_|(refine hK _ _ ?_;clear hK K)|(refine jad (fun hc=>?_) (fun hc=>?_)<;>first | contradiction | (exfalso;omega) | skip)|refine wkB ?_|exact True.intro|(clear hK K)))
 (refine jaN [.tmp 4] ?_;try simp only [go_sem])
 rfl
set_option maxHeartbeats 1000000 in
set_option maxRecDepth 10000 in
theorem jla (r:Rd) (k:Int) (h:ROk r):ACalls Tryz.prog 94 [pR,rI k] (jbE r) (fun v l=>v=rB (r.kind k)∧l=jbE r):=by
 obtain ⟨h1,h2,h3,h4,h5,h6,h7⟩:=h
 refine jaw Tryz.func94 Tryz.ntmps94 ?_
 simp only [jbE,ja5]
 (repeat' (first|refine jaa fun K hK=>?_|refine wkA ?_|(with_reducible refine gR 1 ?_);refine dE 1 [0,1,2,3,4,5,6,7,8,9,10,11,12,13,14,15,16,17,18,19,20] mixed ?_|(refine hK _ _ ?_;clear hK K)|(refine jad (fun hc=>?_) (fun hc=>?_)<;>first | contradiction | (exfalso;omega) | skip)|refine wkB ?_|exact True.intro|(clear hK K)))
 (refine jaN [.tmp 4] ?_;try simp only [go_sem])
 rfl
set_option maxHeartbeats 1000000 in
set_option maxRecDepth 10000 in
theorem jbN (r:Rd) (t:ByteArray) (h:ROk r):ACalls Tryz.prog 145 [pR,rS t] (jbE r) (fun v l=>v=.tup []∧l=jbE (r.must t)):=by
 have his:=jes r t h
 have hf:=jfj r 20 h
 obtain ⟨h1,h2,h3,h4,h5,h6,h7⟩:=h
 simp only [jbE,ja5] at his hf
 refine jaw Tryz.func145 Tryz.ntmps145 ?_
 simp only [jbE,ja5]
 (repeat' (first|refine jaa fun K hK=>?_|refine wkA ?_|(refine hK _ _ ?_;clear hK K)|(refine jad (fun hc=>?_) (fun hc=>?_)<;>first | contradiction | (exfalso;omega) | skip)|refine cm (his) ?_|refine cm (hf) ?_|refine wkB ?_|exact True.intro|(clear hK K)))
 ·(refine jbM [] ?_ ?_<;>(try simp only [go_sem]))
  simp only [Rd.must,hc,Bool.false_eq_true,if_false,go_sem]
 ·(refine jbM [] ?_ ?_<;>(try simp only [go_sem]))
  simp only [Rd.must,hc,if_true];rfl
set_option maxHeartbeats 1000000 in
set_option maxRecDepth 10000 in
theorem jjr (r:Rd) (h:ROk r):ACalls Tryz.prog 146 [pR] (jbE r) (fun v l=>v=rS r.name.2∧l=jbE r.name.1):=by
 have his:=jla r 3 h
 have hf:=jfj r 20 h
 obtain ⟨h1,h2,h3,h4,h5,h6,h7⟩:=h
 simp only [jbE,ja5] at his hf
 refine jaw Tryz.func146 Tryz.ntmps146 ?_
 simp only [jbE,ja5]
 (repeat' (first|refine jaa fun K hK=>?_|refine wkA ?_|(with_reducible refine gR 6 ?_);refine dE 6 [0,1,2,3,4,5,6,7,8,9,10,11,12] mixed ?_|(refine hK _ _ ?_;clear hK K)|(refine jad (fun hc=>?_) (fun hc=>?_)<;>first | contradiction | (exfalso;omega) | skip)|refine cm (his) ?_|refine cm (hf) ?_|refine wkB ?_|exact True.intro|(clear hK K)))
 ·(refine jbM [.tmp 2] ?_ ?_<;>(try simp only [go_sem]))
  ·simp only [Rd.name,hc,Bool.false_eq_true,if_false]
  ·simp only [Rd.name,hc,Bool.false_eq_true,if_false,go_sem]
 ·(refine jbM [.tmp 2] ?_ ?_<;>(try simp only [go_sem]))
  ·simp only [Rd.name,hc,if_true]
   rw [show r.i+1 - 1=r.i by omega];rfl
  ·simp only [Rd.name,hc,if_true];rfl
set_option maxHeartbeats 1000000 in
set_option maxRecDepth 10000 in
theorem ja1 (r:Rd) (h:ROk r):ACalls Tryz.prog 144 [pR] (jbE r) (fun v l=>v=rI r.line∧l=jbE r):=by
 obtain ⟨h1,h2,h3,h4,h5,h6,h7⟩:=h
 refine jaw Tryz.func144 Tryz.ntmps144 ?_
 simp only [jbE,ja5]
 (repeat' (first|refine jaa fun K hK=>?_|refine wkA ?_|(with_reducible refine gR 1 ?_);refine dE 1 [0,1,2,3,4,5,6,7,8,9,10,11,12,13,14,15,16] mixed ?_|(refine hK _ _ ?_;clear hK K)|(refine jad (fun hc=>?_) (fun hc=>?_)<;>first | contradiction | (exfalso;omega) | skip)|refine cp (jx9 _ _ (by omega)) ?_|refine wkB ?_|exact True.intro|(clear hK K)))
 (refine jbM [.tmp 2] ?_ ?_<;>(try simp only [go_sem]))
 rfl
set_option maxHeartbeats 1000000 in
set_option maxRecDepth 10000 in
theorem jqB (r:Rd) (k ln n:Int) (nm:ByteArray) (L:List Int) (h:ROk r):ACalls Tryz.prog 215 [pR,rI k,rI ln,rI n,rS nm,jal eI 1 L] (jbE r) (fun v l=>v=rI (r.put k ln n nm L).2∧l=jbE (r.put k ln n nm L).1):=by
 obtain ⟨h1,h2,h3,h4,h5,h6,h7⟩:=h
 refine jaw Tryz.func215 Tryz.ntmps215 ?_
 simp only [jbE,ja5]
 (repeat' (first|refine jaa fun K hK=>?_|refine wkA ?_|(refine hK _ _ ?_;clear hK K)|(refine jad (fun hc=>?_) (fun hc=>?_)<;>first | contradiction | (exfalso;omega) | skip)|refine wkB ?_|exact True.intro|(clear hK K)))
 (refine jbM [.tmp 12] ?_ ?_<;>(try simp only [go_sem]))
 ·simp only [Rd.put];exact jqO (by omega)
 ·simp only [Rd.put,Rd.node,List.map_append,List.length_append,List.length_cons,List.length_nil];rfl
set_option maxHeartbeats 1000000 in
set_option maxRecDepth 10000 in
theorem jhT (r:Rd) (h:ROk r):ACalls Tryz.prog 213 [pR] (jbE r) (fun v l=>v=.tup []∧l=jbE r.down):=by
 have hf:=jfj r 21 h
 obtain ⟨h1,h2,h3,h4,h5,h6,h7⟩:=h
 simp only [jbE,ja5] at hf
 refine jaw Tryz.func213 Tryz.ntmps213 ?_
 simp only [jbE,ja5]
 (repeat' (first|refine jaa fun K hK=>?_|refine wkA ?_|(refine hK _ _ ?_;clear hK K)|(refine jad (fun hc=>?_) (fun hc=>?_)<;>first | contradiction | (exfalso;omega) | skip)|refine cm (hf) ?_|refine wkB ?_|exact True.intro|(clear hK K)))
 ·(refine jbM [] ?_ ?_<;>(try simp only [go_sem]))
  simp only [Rd.down,if_pos hc,go_sem]
 ·(refine jbM [] ?_ ?_<;>(try simp only [go_sem]))
  simp only [Rd.down];rw [if_neg (by omega)]
set_option maxHeartbeats 1000000 in
set_option maxRecDepth 10000 in
theorem jed (r:Rd) (h:ROk r):ACalls Tryz.prog 211 [pR] (jbE r) (fun v l=>v=rS r.word∧l=jbE r):=by
 have his:=jla r 4 h
 obtain ⟨h1,h2,h3,h4,h5,h6,h7⟩:=h
 simp only [jbE,ja5] at his
 refine jaw Tryz.func211 Tryz.ntmps211 ?_
 simp only [jbE,ja5]
 (repeat' (first|refine jaa fun K hK=>?_|refine wkA ?_|(with_reducible refine gR 3 ?_);refine dE 3 [0,1,2,3,4,5,6,7,8,9,10,11] mixed ?_|(refine hK _ _ ?_;clear hK K)|(refine jad (fun hc=>?_) (fun hc=>?_)<;>first | contradiction | (exfalso;omega) | skip)|refine cm (his) ?_|refine wkB ?_|exact True.intro|(clear hK K)))
 ·(refine jbM [.tmp 2] ?_ ?_<;>(try simp only [go_sem]))
  simp only [Rd.word,hc,if_true];rfl
 ·(refine jbM [.tmp 2] ?_ ?_<;>(try simp only [go_sem]))
  simp only [Rd.word,hc,Bool.false_eq_true,if_false]
set_option maxHeartbeats 1000000 in
set_option maxRecDepth 10000 in
theorem jsF (r:Rd) (h:ROk r) (hn:r.kind 3=true→r.i+1 < r.l.length):ACalls Tryz.prog 269 [pR] (jbE r) (fun v l=>v=rB r.calls∧l=jbE r):=by
 have his:=jla r 3 h
 obtain ⟨h1,h2,h3,h4,h5,h6,h7⟩:=h
 simp only [jbE,ja5] at his
 refine jaw Tryz.func269 Tryz.ntmps269 ?_
 simp only [jbE,ja5]
 (repeat' (first|refine jaa fun K hK=>?_|refine wkA ?_|(with_reducible refine gR 2 ?_);refine dE 2 [0,1,2,3,4,5,6,7,8,9,10,11,12,13,14,15,16,17,18,19,20,21,22,23,24,25,26,27,28,29,30,31] mixed ?_|(refine hK _ _ ?_;clear hK K)|(refine jad (fun hc=>?_) (fun hc=>?_)<;>first | contradiction | (exfalso;omega) | skip)|refine cm (his) ?_|refine wkB ?_|exact True.intro|(clear hK K)))
 refine ⟨fun h=>⟨h,by omega,hn h⟩,fun h=>⟨h,by omega,hn (by simp only [Bool.and_eq_true] at h;exact h.1)⟩,?_⟩
 (repeat' (first|refine jaa fun K hK=>?_|refine wkA ?_|(refine hK _ _ ?_;clear hK K)|(refine jad (fun hc=>?_) (fun hc=>?_)<;>first | contradiction | (exfalso;omega) | skip)|refine wkB ?_|exact True.intro|(clear hK K)))
 (refine jaN [.tmp 2] ?_;try simp only [go_sem])
 rfl
set_option maxHeartbeats 1000000 in
set_option maxRecDepth 10000 in
theorem jvt (lv:Int):PCall Tryz.prog 290 [rI lv] (jal eS 1 (jdj lv)):=by
 refine jbA Tryz.func290 Tryz.ntmps290 ?_
 (repeat' (first|refine jaa fun K hK=>?_|refine wkA ?_|(refine hK _ _ ?_;clear hK K)|(refine jad (fun hc=>?_) (fun hc=>?_)<;>first | contradiction | (exfalso;omega) | skip)|refine wkB ?_|exact True.intro|(clear hK K)))
 all_goals refine jlF [.tmp 2] ?_
 all_goals simp only [jdj, *,if_true,if_false,Int.reduceEq,if_pos,if_neg,not_false_eq_true]
 all_goals exact .lit _ _ _ _ _
theorem jo4 (lv:Int):(jdj lv).length≤4∧∀ s∈jdj lv,s≠⟨#[]⟩:=by
 unfold jdj
 split
 ·decide
 ·split
  ·decide
  ·split
   ·decide
   ·split<;>decide
set_option maxHeartbeats 1000000 in
set_option maxRecDepth 10000 in
theorem jtN (r:Rd) (lv:Int) (h:ROk r):ACalls Tryz.prog 283 [pR,rI lv] (jbE r) (fun v l=>v=rS (r.next lv)∧l=jbE r):=by
 have his:=fun t=>jes r t h
 have hl:=jo4 lv
 obtain ⟨h1,h2,h3,h4,h5,h6,h7⟩:=h
 simp only [jbE,ja5] at his
 refine jaw Tryz.func283 Tryz.ntmps283 ?_
 simp only [jbE,ja5]
 (repeat' (first|refine jaa fun K hK=>?_|refine wkA ?_|(refine hK _ _ ?_;clear hK K)|(refine jad (fun hc=>?_) (fun hc=>?_)<;>first | contradiction | (exfalso;omega) | skip)|refine cp (jvt lv) ?_|refine wkB ?_|exact True.intro|(clear hK K)))
 have hKo:=hK;clear hK
 refine jah (S:=Nat) [(4,1),(6,2),(10,17)] (fun k=>k≤(jdj lv).length∧∀ j,j < k→r.is (nth (jdj lv) j)=false) (fun k=>[(6,rI k)]) (fun _=>⟨[0,1],jbE r⟩) (fun k=>(jdj lv).length - k) 0 ⟨by omega,fun j h=>by omega⟩ (jaE rfl lle) ?_
 rintro k ⟨hk1,hk2⟩ Kr hKr
 simp only [jbE,ja5]
 (refine S ?_;try exact True.intro)
 (repeat' (first|refine jaa fun K hK=>?_|refine wkA ?_|(refine hK _ _ ?_;clear hK K)|(refine jad (fun hc=>?_) (fun hc=>?_)<;>first | contradiction | (exfalso;omega) | skip)|refine cm (his _) ?_|(refine hKo _ _ ?_)|refine wkB ?_|exact True.intro|(clear hK K)))
 ·(refine jbM [.tmp 4] ?_ ?_<;>(try simp only [go_sem]))
  have:(jdj lv).find? (fun s=>r.is s)=some (nth (jdj lv) k):=jeJ hk2 (by omega) hc
  simp only [Rd.next,this]
 ·refine hKr _ _ (jau (k+1) ⟨by omega,fun j hj=>?_⟩ (by (try simp only);omega) rfl lle)
  by_cases e:j=k
  ·subst e;exact hc
  ·exact hk2 j (by omega)
 ·(refine jbM [.tmp 4] ?_ ?_<;>(try simp only [go_sem]))
  have:(jdj lv).find? (fun s=>r.is s)=none:=jh2 fun j hj=>hk2 j (by omega)
  simp only [Rd.next,this]
theorem jfe {P:Program} {f:FuncId} {args args':List AV} {l:List (Nat×Row)} {R:AV→List (Nat×Row)→Prop} (hl:VLes args args') (h:ACalls P f args' l R):ACalls P f args l R:=fun w vs h1 h2=>by
 obtain ⟨hlen,hg⟩:=hl.get
 refine h w vs h1 ⟨hlen.symm.trans h2.1,fun i a v ha hv=>?_⟩
 have hi:i < args.length:=by rw [hlen];exact (List.getElem?_eq_some_iff.1 ha).1
 exact hg i args[i] a (List.getElem?_eq_getElem hi) ha w v (h2.2 i _ v (List.getElem?_eq_getElem hi) hv)
theorem jdX (r:Rd) (k ln n:Int) (nm:ByteArray) (L:List Int) (a:AV) (ha:VLe a (jal eI 1 L)) (h:ROk r):ACalls Tryz.prog 215 [pR,rI k,rI ln,rI n,rS nm,a] (jbE r) (fun v l=>v=rI (r.put k ln n nm L).2∧l=jbE (r.put k ln n nm L).1):=
 jfe (args':=[pR,rI k,rI ln,rI n,rS nm,jal eI 1 L]) ⟨VLe.refl _,VLe.refl _,VLe.refl _,VLe.refl _,VLe.refl _,ha,trivial⟩ (jqB r k ln n nm L h)
def jt4 (n:Nat):Prop:=∀ r:Rd,r.Inv→8 * r.rem+1≤n→ACalls Tryz.prog 289 [pR] (jbE r) (fun v l=>v=rI (jiT n r).2∧l=jbE (jiT n r).1)
def jjJ (n:Nat):Prop:=∀ r:Rd,r.Inv→8 * r.rem+2≤n→ACalls Tryz.prog 282 [pR] (jbE r) (fun v l=>v=rI (ja8 n r).2∧l=jbE (ja8 n r).1)
def jm5 (n:Nat):Prop:=∀ (lv:Nat) (r:Rd),lv≤5→r.Inv→8 * r.rem+8 - lv≤n→ACalls Tryz.prog 271 [pR,rI lv] (jbE r) (fun v l=>v=rI (jaC n lv r).2∧l=jbE (jaC n lv r).1)
set_option maxHeartbeats 2000000 in
set_option maxRecDepth 10000 in
theorem jr7 (n:Nat) (ha:jt4 n) (hf:jjJ n):jjJ (n+1):=by
 intro r h hn
 have sg:∀ t,r.is t=true→r.e=0∧r.down.Inv∧r.down.inc.Inv∧r.down.inc.rem+1≤r.rem:=fun t ht=>by
  obtain ⟨he,hk⟩:=Rd.is_kind ht
  obtain ⟨h1,h2,h3,h4,_⟩:=Rd.down_inv h he
  have htk:r.down.tok=r.tok:=by unfold Rd.tok;rw [h3,h4]
  obtain ⟨s1,e1⟩:=Rd.st_inc h1 (by rw [htk];exact hk)
  have:=s1.inv h1
  have hb:=Rd.behind h1 (by rw [htk];exact hk)
  refine ⟨he,h1,this,?_⟩
  unfold Rd.rem
  rw [if_pos he]
  have:r.down.inc.i=r.i+1:=by show r.down.i+1=_;rw [h3]
  have hl:r.down.inc.l=r.l:=h4
  rw [this,hl]
  rw [h3,h4] at hb
  split<;>omega
 by_cases hm:r.is (⟨#[45]⟩:ByteArray)=true
 ·obtain ⟨he,h1,h2,h3⟩:=sg _ hm
  have s2:=(jep n).2.1 _ h2
  have h4:=s2.inv h2
  have h5:(ja8 n r.down.inc).1.up.Inv:=(Rd.st_deep h he ((Rd.st_inc h1 (by obtain ⟨_,_,h3,h4,_⟩:=Rd.down_inv h he;unfold Rd.tok;rw [h3,h4];exact (Rd.is_kind hm).2)).1.trans s2)).inv h
  have hd1:=h2.dlo
  have hd2:=h2.dhi
  have hi1:=h1.lt
  have hi2:=h1.len
  have hi3:=h1.pos
  have hd3:=h4.dlo
  have hd4:=h4.dhi
  rw [ja8,if_pos hm]
  refine jaw Tryz.func282 Tryz.ntmps282 ?_
  (refine S ?_;try exact True.intro)
  (have W:=hm;repeat' (first|refine jaa fun K hK=>?_|refine wkA ?_|(refine hK _ _ ?_;clear hK K)|(refine jad (fun hc=>?_) (fun hc=>?_)<;>first | contradiction | (exfalso;omega) | skip)|refine cm (ja1 r (rok h)) ?_|refine cm (jes r _ (rok h)) ?_|refine cm (jhT r (rok h)) ?_|refine cm (hf r.down.inc h2 (by omega)) ?_|refine cm (jdX (ja8 n r.down.inc).1.up _ _ _ _ [(ja8 n r.down.inc).2] _ VLe.sl (rok h5)) ?_|refine wkB ?_|exact True.intro|(clear hK K)));all_goals (try clear W)
  (refine jbM [.tmp 2] ?_ ?_<;>(try simp only [go_sem]))
 ·have hmf:r.is (⟨#[45]⟩:ByteArray)=false:=by simpa using hm
  by_cases hq:r.is (⟨#[33]⟩:ByteArray)=true
  ·obtain ⟨he,h1,h2,h3⟩:=sg _ hq
   have s2:=(jep n).2.1 _ h2
   have h4:=s2.inv h2
   have h5:(ja8 n r.down.inc).1.up.Inv:=(Rd.st_deep h he ((Rd.st_inc h1 (by obtain ⟨_,_,h3,h4,_⟩:=Rd.down_inv h he;unfold Rd.tok;rw [h3,h4];exact (Rd.is_kind hq).2)).1.trans s2)).inv h
   have hd1:=h2.dlo
   have hd2:=h2.dhi
   have hi1:=h1.lt
   have hi2:=h1.len
   have hi3:=h1.pos
   have hd3:=h4.dlo
   have hd4:=h4.dhi
   rw [ja8,if_neg hm,if_pos hq]
   refine jaw Tryz.func282 Tryz.ntmps282 ?_
   (refine S ?_;try exact True.intro)
   (have W:=And.intro hmf (hq);repeat' (first|refine jaa fun K hK=>?_|refine wkA ?_|(refine hK _ _ ?_;clear hK K)|(refine jad (fun hc=>?_) (fun hc=>?_)<;>first | contradiction | (exfalso;omega) | skip)|refine cm (ja1 r (rok h)) ?_|refine cm (jes r _ (rok h)) ?_|refine cm (jhT r (rok h)) ?_|refine cm (hf r.down.inc h2 (by omega)) ?_|refine cm (jdX (ja8 n r.down.inc).1.up _ _ _ _ [(ja8 n r.down.inc).2] _ VLe.sl (rok h5)) ?_|refine wkB ?_|exact True.intro|(clear hK K)));all_goals (try clear W)
   (refine jbM [.tmp 2] ?_ ?_<;>(try simp only [go_sem]))
  ·have hqf:r.is (⟨#[33]⟩:ByteArray)=false:=by simpa using hq
   rw [ja8,if_neg hm,if_neg hq]
   refine jaw Tryz.func282 Tryz.ntmps282 ?_
   (refine S ?_;try exact True.intro)
   (have W:=And.intro hmf (hqf);repeat' (first|refine jaa fun K hK=>?_|refine wkA ?_|(refine hK _ _ ?_;clear hK K)|(refine jad (fun hc=>?_) (fun hc=>?_)<;>first | contradiction | (exfalso;omega) | skip)|refine cm (ja1 r (rok h)) ?_|refine cm (jes r _ (rok h)) ?_|refine cm (ha r h (by omega)) ?_|refine wkB ?_|exact True.intro|(clear hK K)));all_goals (try clear W)
   (refine jbM [.tmp 2] ?_ ?_<;>(try simp only [go_sem]))
set_option maxHeartbeats 4000000 in
set_option maxRecDepth 10000 in
theorem jun (n:Nat) (hf:jjJ n) (hcc:∀ m,m≤n→jm5 m):jm5 (n+1):=by
 intro lv r hlv h hn
 have hch:∀ (m:Nat) (q:Rd),m≤n→lv+1≤5→q.Inv→8 * q.rem+7 - lv≤m→ACalls Tryz.prog 271 [pR,rI ((lv:Int)+1)] (jbE q) (fun v l=>v=rI (jaC m (lv+1) q).2∧l=jbE (jaC m (lv+1) q).1):=fun m q hm hl hq hr=>by
  have:=hcc m hm (lv+1) q hl hq (by omega)
  rw [show ((lv+1:Nat):Int)=(lv:Int)+1 from by omega] at this
  exact this
 by_cases h5:lv=5
 ·subst h5
  rw [jaC,if_pos rfl]
  refine jaw Tryz.func271 Tryz.ntmps271 ?_
  (refine S ?_;try exact True.intro)
  (repeat' (first|refine jaa fun K hK=>?_|refine wkA ?_|(refine hK _ _ ?_;clear hK K)|(refine jad (fun hc=>?_) (fun hc=>?_)<;>first | contradiction | (exfalso;omega) | skip)|refine cm (hf r h (by omega)) ?_|refine wkB ?_|exact True.intro|(clear hK K)))
  (refine jbM [.tmp 4] ?_ ?_<;>(try simp only [go_sem]))
 ·rw [jaC,if_neg h5]
  have s1:=(jep n).2.2.1 (lv+1) r h
  have h1:=s1.inv h
  have hr1:=s1.rem
  refine jaw Tryz.func271 Tryz.ntmps271 ?_
  (refine S ?_;try exact True.intro)
  (repeat' (first|refine jaa fun K hK=>?_|refine wkA ?_|(refine hK _ _ ?_;clear hK K)|(refine jad (fun hc=>?_) (fun hc=>?_)<;>first | contradiction | (exfalso;omega) | skip)|refine cm (ja1 r (rok h)) ?_|refine cm (hch n r (Nat.le_refl _) (by omega) h (by omega)) ?_|refine wkB ?_|exact True.intro|(clear hK K)))
  refine jah (S:=Nat×Rd×Int) [(4,1),(6,3),(19,27)] (fun s=>s.2.1.Inv∧8 * s.2.1.rem+7 - lv≤s.1∧s.1≤n∧jgx s.1 lv r.line s.2=jgx n lv r.line (jaC n (lv+1) r)) (fun s=>[(6,rI s.2.2)]) (fun s=>⟨[0,1],jbE s.2.1⟩) (fun s=>s.1) (n,jaC n (lv+1) r) ⟨h1,by (try simp only);omega,Nat.le_refl _,rfl⟩ (jaE rfl lle) ?_
  rintro ⟨m,q,x⟩ ⟨hq,hm1,hm2,hm3⟩ Kr hKr
  simp only at hq hm1 hm2 hm3
  rw [← hm3]
  obtain ⟨m,rfl⟩:∃ k,m=k+1:=⟨m - 1,by omega⟩
  have hql:=hq.lt
  have hqp:=hq.pos
  have hqn:=hq.len
  by_cases hx:q.next lv=⟨#[]⟩
  ·rw [jgx,if_pos hx]
   (refine S ?_;try exact True.intro)
   (have W:=hx;repeat' (first|refine jaa fun K hK=>?_|refine wkA ?_|(refine hK _ _ ?_;clear hK K)|(refine jad (fun hc=>?_) (fun hc=>?_)<;>first | contradiction | (exfalso;omega) | skip)|refine cm (jtN q lv (rok hq)) ?_|refine wkB ?_|exact True.intro|(clear hK K)));all_goals (try clear W)
   (refine jbM [.tmp 4] ?_ ?_<;>(try simp only [go_sem]))
  ·have hk:=Rd.is_kind (Rd.next_is hx)
   obtain ⟨t1,e1⟩:=Rd.st_inc hq hk.2
   have hi:=t1.inv hq
   have hri:=Rd.rem_inc hq hk
   have t2:=(jep m).2.2.1 (lv+1) _ hi
   have hj:=t2.inv hi
   have hrj:=t2.rem
   have t3:=fun L=>Rd.st_put (t1.trans t2) (by have:=t2.pot;omega) 9 r.line 0 (q.next lv) L
   rw [jgx,if_neg hx]
   (refine S ?_;try exact True.intro)
   (have W:=hx;repeat' (first|refine jaa fun K hK=>?_|refine wkA ?_|(refine hK _ _ ?_;clear hK K)|(refine jad (fun hc=>?_) (fun hc=>?_)<;>first | contradiction | (exfalso;omega) | skip)|refine cm (jtN q lv (rok hq)) ?_|refine cm (hch m q.inc (by omega) (by omega) hi (by omega)) ?_|refine cm (jdX (jaC m (lv+1) q.inc).1 _ _ _ _ [x,(jaC m (lv+1) q.inc).2] _ VLe.sl (rok hj)) ?_|refine wkB ?_|exact True.intro|(clear hK K)));all_goals (try clear W)
   ·have h2:lv=2:=by omega
    (refine jbM [.tmp 4] ?_ ?_<;>(try simp only [go_sem]))
    ·simp only [if_pos h2]
    ·simp only [if_pos h2]
   ·have h2:¬ lv=2:=by omega
    refine hKr _ _ (jau (m,(jaC m (lv+1) q.inc).1.put 9 r.line 0 (q.next lv) [x,(jaC m (lv+1) q.inc).2]) ⟨(t3 _).inv hq,?_,by (try simp only);omega,?_⟩ (by (try simp only);omega) rfl lle)
    ·have h6:∀ L,((jaC m (lv+1) q.inc).1.put 9 r.line 0 (q.next lv) L).1.rem=(jaC m (lv+1) q.inc).1.rem:=fun L=>rfl
     simp only [h6]
     omega
    ·rw [← hm3,jgx,if_neg hx,if_neg h2]
end Go.Proofs.YtfkgcobaheegbaaGreatDoor
