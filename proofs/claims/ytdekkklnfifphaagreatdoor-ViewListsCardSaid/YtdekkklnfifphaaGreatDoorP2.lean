/- The document's lexer: bytes, words, spans. The document's lexer: tokens. The document's lexer: all. The document's parser: its small methods. The document's parser: expressions. No conditions. -/
import Derived.Test.YtdekkklnfifphaaGreatDoorGdTm
import Derived.Test.YtdekkklnfifphaaGreatDoorLxT
set_option linter.all false
namespace Go.Proofs.YtdekkklnfifphaaGreatDoor
open Go Go.Gd
abbrev rI (n:Int):AV:=.raw (.int .i64 n)
abbrev rU (n:Int):AV:=.raw (.int .u8 n)
abbrev rS (s:ByteArray):AV:=.raw (.string s)
abbrev rB (b:Bool):AV:=.raw (.bool b)
set_option maxRecDepth 10000 in
theorem jhK (n:Int):PCall Tryz.prog 142 [rU n] (rB (jbq n)):=by
 refine jbO Tryz.func142 Tryz.ntmps142 ?_
 (repeat' (first|refine jaa fun K hK=>?_|refine wkA ?_|(refine hK _ _ ?_;clear hK K)|(refine jad (fun hc=>?_) (fun hc=>?_)<;>first | contradiction | (exfalso;omega) | skip)|refine wkB ?_|exact True.intro|(clear hK K)))
 (refine jbV [.tmp 2] ?_ ?_<;>(try simp only [go_sem]))
 rfl
set_option maxRecDepth 10000 in
theorem jkb (n:Int):PCall Tryz.prog 144 [rU n] (rB (jfX n)):=by
 refine jbO Tryz.func144 Tryz.ntmps144 ?_
 (repeat' (first|refine jaa fun K hK=>?_|refine wkA ?_|(refine hK _ _ ?_;clear hK K)|(refine jad (fun hc=>?_) (fun hc=>?_)<;>first | contradiction | (exfalso;omega) | skip)|refine wkB ?_|exact True.intro|(clear hK K)))
 (refine jbV [.tmp 2] ?_ ?_<;>(try simp only [go_sem]))
 rfl
set_option maxRecDepth 10000 in
theorem jtg (s:ByteArray):PCall Tryz.prog 143 [rS s] (rB (jqr s)):=by
 refine jbO Tryz.func143 Tryz.ntmps143 ?_
 (repeat' (first|refine jaa fun K hK=>?_|refine wkA ?_|(refine hK _ _ ?_;clear hK K)|(refine jad (fun hc=>?_) (fun hc=>?_)<;>first | contradiction | (exfalso;omega) | skip)|refine wkB ?_|exact True.intro|(clear hK K)))
 (refine jbV [.tmp 2] ?_ ?_<;>(try simp only [go_sem]))
 rfl
set_option maxRecDepth 10000 in
theorem jzj (s:ByteArray) (at_:Int) (hs:s.size≤1000000):PCall Tryz.prog 148 [rS s,rI at_] (rI (jeo s (min s.size at_.toNat))):=by
 refine jbO Tryz.func148 Tryz.ntmps148 ?_
 (repeat' (first|refine jaa fun K hK=>?_|refine wkA ?_|(refine hK _ _ ?_;clear hK K)|(refine jad (fun hc=>?_) (fun hc=>?_)<;>first | contradiction | (exfalso;omega) | skip)|refine wkB ?_|exact True.intro|(clear hK K)))
 have hKo:=hK;clear hK
 refine jag (S:=Nat) [(5,19)] (fun k=>k≤s.size∧k≤at_.toNat) (fun k=>[(5,rI (jeo s k)),(6,rI k)]) (fun _=>⟨[],[]⟩) (fun k=>s.size - k) 0 (by omega) (jau rfl (by simp only [go_sem,LLe,Nat.reduceAdd,AV.raw.injEq,Value.int.injEq,Value.slice.injEq,Value.pointer.injEq,AV.rs.injEq,jeo];try omega)) ?_
 rintro k ⟨hk1,hk2⟩ Kr hKr
 have hb:=jh5 s k
 (refine S ?_;try exact True.intro)
 (repeat' (first|refine jaa fun K hK=>?_|refine wkA ?_|(refine hK _ _ ?_;clear hK K)|(refine jad (fun hc=>?_) (fun hc=>?_)<;>first | contradiction | (exfalso;omega) | skip)|(refine hKo _ _ ?_)|refine wkB ?_|exact True.intro|(clear hK K)))
 ·refine hKr _ _ (jar (k+1) (by omega) (by (try simp only);omega) rfl (by simp only [jeo,if_pos hc];exact lle))
 ·refine hKr _ _ (jar (k+1) (by omega) (by (try simp only);omega) rfl (by simp only [jeo,if_neg hc];exact lle))
 ·(refine jbV [.tmp 4] ?_ ?_<;>(try simp only [go_sem]))
  rw [show min s.size at_.toNat=k by omega]
theorem j2t {s:ByteArray} (h:∀ j,j < kwords.length→nth kwords j≠s):jxv s=false:=by
 unfold jxv
 rw [List.any_eq_false]
 intro x hm
 obtain ⟨j,hj,rfl⟩:=List.getElem_of_mem hm
 have:=h j hj
 rw [jbc hj] at this
 simp [this]
theorem jzd {s:ByteArray} {k:Nat} (hk:k < kwords.length) (h:nth kwords k=s):jxv s=true:=by
 unfold jxv
 rw [List.any_eq_true]
 exact ⟨kwords[k],List.getElem_mem hk,by rw [jbc hk] at h;simp [h]⟩
set_option maxRecDepth 10000 in
theorem j0k (s:ByteArray):PCall Tryz.prog 145 [rS s] (rB (jxv s)):=by
 refine jbO Tryz.func145 Tryz.ntmps145 ?_
 (repeat' (first|refine jaa fun K hK=>?_|refine wkA ?_|(refine hK _ _ ?_;clear hK K)|(refine jad (fun hc=>?_) (fun hc=>?_)<;>first | contradiction | (exfalso;omega) | skip)|refine wkB ?_|exact True.intro|(clear hK K)))
 have hKo:=hK;clear hK
 refine jag (S:=Nat) [(2,1),(4,1),(6,12)] (fun k=>k≤16∧∀ j,j < k→nth kwords j≠s) (fun k=>[(3,.sl true 1 (kwords.map eS) []),(4,rI k)]) (fun _=>⟨[],[]⟩) (fun k=>16 - k) 0 ⟨by omega,fun j h=>by omega⟩ (jau rfl (by (repeat' (first | exact True.intro | exact Or.inr rfl | exact Or.inl rfl | refine And.intro ?_ ?_)))) ?_
 rintro k ⟨hk1,hk2⟩ Kr hKr
 have hl:=jo2
 (refine S ?_;try exact True.intro)
 (repeat' (first|refine jaa fun K hK=>?_|refine wkA ?_|(refine hK _ _ ?_;clear hK K)|(refine jad (fun hc=>?_) (fun hc=>?_)<;>first | contradiction | (exfalso;omega) | skip)|(refine hKo _ _ ?_)|refine wkB ?_|exact True.intro|(clear hK K)))
 ·(refine jbV [.tmp 2] ?_ ?_<;>(try simp only [go_sem]))
  rw [jzd (by omega) hc]
 ·refine hKr _ _ (jar (k+1) ⟨by omega,fun j hj=>?_⟩ (by (try simp only);omega) rfl lle)
  by_cases e:j=k
  ·subst e;exact hc
  ·exact hk2 j (by omega)
 ·(refine jbV [.tmp 2] ?_ ?_<;>(try simp only [go_sem]))
  rw [j2t fun j hj=>hk2 j (by omega)]
set_option maxRecDepth 10000 in
theorem juB (s:ByteArray) (i:Nat) (hs:s.size≤1000000) (hi:i≤s.size):PCall Tryz.prog 109 [rS s,rI i] (rI (skE s i:Nat)):=by
 refine jbO Tryz.func109 Tryz.ntmps109 ?_
 (repeat' (first|refine jaa fun K hK=>?_|refine wkA ?_|(refine hK _ _ ?_;clear hK K)|(refine jad (fun hc=>?_) (fun hc=>?_)<;>first | contradiction | (exfalso;omega) | skip)|refine wkB ?_|exact True.intro|(clear hK K)))
 have hKo:=hK;clear hK
 refine jag (S:=Nat) [(1,1),(4,54)] (fun k=>k≤s.size∧skE s k=skE s i) (fun k=>[(1,rI k)]) (fun _=>⟨[],[]⟩) (fun k=>s.size - k) i ⟨hi,rfl⟩ (jau rfl lle) ?_
 rintro k ⟨hk1,hk2⟩ Kr hKr
 (refine S ?_;try exact True.intro)
 (repeat' (first|refine jaa fun K hK=>?_|refine wkA ?_|(refine hK _ _ ?_;clear hK K)|(refine jad (fun hc=>?_) (fun hc=>?_)<;>first | contradiction | (exfalso;omega) | skip)|(refine hKo _ _ ?_)|refine wkB ?_|exact True.intro|(clear hK K)))
 ·have hst:jcU s k=some (k+1):=by
   unfold jcU
   rw [if_pos (by omega),if_pos]
   simp [j0R];omega
  refine hKr _ _ (jar (k+1) ⟨by omega,by rw [← hk2,jon hst]⟩ (by (try simp only);omega) rfl lle)
 ·have hst:jcU s k=some (jcA jus s k):=by
   unfold jcU
   rw [if_pos (by omega),if_neg (by simp [j0R];omega),if_pos]
   simp [js2];exact ⟨⟨hc.1.1,by omega⟩,hc.2⟩
  have hlt:=jgc hst
  have hKi:=hK;clear hK
  refine jag (S:=Nat) [(1,1),(45,12)] (fun m=>k≤m∧m≤s.size∧∀ j,k≤j→j < m→jus (jaG s j)=true) (fun m=>[(1,rI m)]) (fun _=>⟨[],[]⟩) (fun m=>s.size - m) k ⟨by omega,by omega,fun j h1 h2=>by omega⟩ (jau rfl lle) ?_
  rintro m ⟨hm1,hm2,hm3⟩ Kj hKj
  (refine S ?_;try exact True.intro)
  (repeat' (first|refine jaa fun K hK=>?_|refine wkA ?_|(refine hK _ _ ?_;clear hK K)|(refine jad (fun hc=>?_) (fun hc=>?_)<;>first | contradiction | (exfalso;omega) | skip)|(refine hKi _ _ ?_)|refine wkB ?_|exact True.intro|(clear hK K)))
  ·refine hKj _ _ (jar (m+1) ⟨by omega,by omega,fun j h1 h2=>?_⟩ (by (try simp only);omega) rfl lle)
   by_cases e:j=m
   ·subst e;simp only [jus,decide_eq_true_eq];exact hc.2
   ·exact hm3 j h1 (by omega)
  ·have e:jcA jus s k=m:=jhx (by simp only [jus,decide_eq_true_eq];omega) hm1 hm2 hm3
   rw [e] at hst hlt
   refine hKr _ _ (jar m ⟨by omega,by rw [← hk2,jon hst]⟩ (by (try simp only);omega) rfl lle)
 ·(refine jbV [.tmp 4] ?_ ?_<;>(try simp only [go_sem]))
  rw [← hk2,jom]
  unfold jcU
  rw [if_pos (by omega),if_neg (by simp [j0R];omega),if_neg]
  simp [js2];omega
 ·(refine jbV [.tmp 4] ?_ ?_<;>(try simp only [go_sem]))
  rw [← hk2,jom]
  unfold jcU
  rw [if_neg (by omega)]
set_option maxRecDepth 10000 in
theorem jzS (s:ByteArray) (a:Nat) (hs:s.size≤1000000) (ha:a < s.size):PCall Tryz.prog 146 [rS s,rI a] (.tup [rS (jgJ s a).1,rI (jgJ s a).2.1,rI (jgJ s a).2.2]):=by
 refine jbO Tryz.func146 Tryz.ntmps146 ?_
 (repeat' (first|refine jaa fun K hK=>?_|refine wkA ?_|(refine hK _ _ ?_;clear hK K)|(refine jad (fun hc=>?_) (fun hc=>?_)<;>first | contradiction | (exfalso;omega) | skip)|refine wkB ?_|exact True.intro|(clear hK K)))
 have hKo:=hK;clear hK
 refine jag (S:=Nat) [(7,1),(10,24)] (fun m=>a+1≤m∧m≤s.size∧∀ j,a+1≤j→j < m→jvG (jaG s j)=true) (fun m=>[(7,rI m)]) (fun _=>⟨[],[]⟩) (fun m=>s.size - m) (a+1) ⟨by omega,by omega,fun j h1 h2=>by omega⟩ (jau rfl lle) ?_
 rintro m ⟨hm1,hm2,hm3⟩ Kr hKr
 (refine S ?_;try exact True.intro)
 (repeat' (first|refine jaa fun K hK=>?_|refine wkA ?_|(refine hK _ _ ?_;clear hK K)|(refine jad (fun hc=>?_) (fun hc=>?_)<;>first | contradiction | (exfalso;omega) | skip)|(refine hKo _ _ ?_)|refine wkB ?_|exact True.intro|(clear hK K)))
 ·refine hKr _ _ (jar (m+1) ⟨by omega,by omega,fun j h1 h2=>?_⟩ (by (try simp only);omega) rfl lle)
  by_cases e:j=m
  ·subst e;simp only [jvG,Bool.and_eq_true,decide_eq_true_eq];exact ⟨⟨hc.1.1.2,hc.1.2⟩,hc.2⟩
  ·exact hm3 j h1 (by omega)
 all_goals have e:jcA jvG s (a+1)=m:=jhx (by simp only [jvG,Bool.and_eq_true,decide_eq_true_eq];omega) hm1 hm2 hm3
 ·(refine jbV [.tmp 4,.tmp 5,.tmp 6] ?_ ?_<;>(try simp only [go_sem]))
  simp only [jgJ,e]
  rw [if_neg (by omega)]
 ·(refine jbV [.tmp 4,.tmp 5,.tmp 6] ?_ ?_<;>(try simp only [go_sem]))
  simp only [jgJ,e]
  rw [if_pos (by omega),if_pos (by omega)]
 ·(refine jbV [.tmp 4,.tmp 5,.tmp 6] ?_ ?_<;>(try simp only [go_sem]))
  simp only [jgJ,e]
  rw [if_pos (by omega),if_neg (by omega)]
theorem jtN:twos.length=5:=rfl
set_option maxRecDepth 10000 in
theorem jzI (s:ByteArray) (hs:0 < s.size) (hs2:s.size≤1000000):PCall Tryz.prog 147 [rS s] (rS (jgb s)):=by
 refine jbO Tryz.func147 Tryz.ntmps147 ?_
 (repeat' (first|refine jaa fun K hK=>?_|refine wkA ?_|(refine hK _ _ ?_;clear hK K)|(refine jad (fun hc=>?_) (fun hc=>?_)<;>first | contradiction | (exfalso;omega) | skip)|refine wkB ?_|exact True.intro|(clear hK K)))
 have hKo:=hK;clear hK
 refine jag (S:=Nat) [(2,1),(4,1),(8,22)] (fun k=>k≤5∧∀ j,j < k→jiP s (nth twos j)=false) (fun k=>[(3,.sl true 1 (twos.map eS) []),(4,rI k)]) (fun _=>⟨[],[]⟩) (fun k=>5 - k) 0 ⟨by omega,fun j h=>by omega⟩ (jau rfl (by (repeat' (first | exact True.intro | exact Or.inr rfl | exact Or.inl rfl | refine And.intro ?_ ?_)))) ?_
 rintro k ⟨hk1,hk2⟩ Kr hKr
 have hl:=jtN
 (refine S ?_;try exact True.intro)
 (repeat' (first|refine jaa fun K hK=>?_|refine wkA ?_|(with_reducible refine gR 5 ?_);refine dE 5 [0,1,2,3,4,5,6,7,8,9,10,11] mixed ?_|(refine hK _ _ ?_;clear hK K)|(refine jad (fun hc=>?_) (fun hc=>?_)<;>first | contradiction | (exfalso;omega) | skip)|(refine hKo _ _ ?_)|refine wkB ?_|exact True.intro|(clear hK K)))
 ·(refine jbV [.tmp 2] ?_ ?_<;>(try simp only [go_sem]))
  have:twos.find? (jiP s)=some (nth twos k):=je1 hk2 (by omega) (by simp only [jiP,Bool.and_eq_true,decide_eq_true_eq];exact hc)
  simp only [jgb,this]
 ·refine hKr _ _ (jar (k+1) ⟨by omega,fun j hj=>?_⟩ (by (try simp only);omega) rfl lle)
  by_cases e:j=k
  ·subst e;simp only [jiP,Bool.and_eq_false_iff,decide_eq_false_iff_not,Int.not_le];exact hc
  ·exact hk2 j (by omega)
 ·have h2:twos.find? (jiP s)=none:=jhS fun j hj=>hk2 j (by omega)
  have hKo:=hK;clear hK
  have hos:onesS.size=16:=rfl
  refine jag (S:=Nat) [(2,1),(6,1),(30,17)] (fun k=>k≤16∧∀ j,j < k→decide (jaG s 0=jaG onesS (nth (List.range 16) j:Nat))=false) (fun k=>[(5,rS onesS),(6,rI k)]) (fun _=>⟨[],[]⟩) (fun k=>16 - k) 0 ⟨by omega,fun j h=>by omega⟩ (jau rfl (by (repeat' (first | exact True.intro | exact Or.inr rfl | exact Or.inl rfl | refine And.intro ?_ ?_)))) ?_
  rintro m ⟨hm1,hm2⟩ Kj hKj
  (refine S ?_;try exact True.intro)
  (repeat' (first|refine jaa fun K hK=>?_|refine wkA ?_|(with_reducible refine gR 11 ?_);refine dE 11 [0,1,2,3,4,5] mixed ?_|(refine hK _ _ ?_;clear hK K)|(refine jad (fun hc=>?_) (fun hc=>?_)<;>first | contradiction | (exfalso;omega) | skip)|(refine hKo _ _ ?_)|refine wkB ?_|exact True.intro|(clear hK K)))
  ·(refine jbV [.tmp 2] ?_ ?_<;>(try simp only [go_sem]))
   have h3:(List.range 16).find? (fun k:Nat=>decide (jaG s 0=jaG onesS (k:Nat)))=some (nth (List.range 16) m):=je1 hm2 (by simp;omega) (by rw [jib (by omega)];simpa using hc)
   simp only [jgb,h2,h3]
   rw [jib (by omega)]
  ·refine hKj _ _ (jar (m+1) ⟨by omega,fun j hj=>?_⟩ (by (try simp only);omega) rfl lle)
   by_cases e:j=m
   ·subst e;rw [jib (by omega)];simpa using hc
   ·exact hm2 j (by omega)
  ·(refine jbV [.tmp 2] ?_ ?_<;>(try simp only [go_sem]))
   have h3:(List.range 16).find? (fun k:Nat=>decide (jaG s 0=jaG onesS (k:Nat)))=none:=jhS fun j hj=>hm2 j (by simp at hj;omega)
   simp only [jgb,h2,h3]
def jsk (t:GToken×Int×Int):AV:=.tup [.agg (jb5 t.1),rI t.2.1,rI t.2.2]
set_option maxHeartbeats 2000000 in
set_option maxRecDepth 10000 in
theorem j2x (s:ByteArray) (a:Nat) (hs:s.size≤1000000) (ha:a < s.size):PCall Tryz.prog 110 [rS s,rI a] (jsk (jbi s a)):=by
 have hex:(s.extract a s.size).size=s.size - a:=by rw [ByteArray.size_extract];omega
 have hsz:=jjm (s.extract a s.size)
 refine jbO Tryz.func110 Tryz.ntmps110 ?_
 (repeat' (first|refine jaa fun K hK=>?_|refine wkA ?_|(refine hK _ _ ?_;clear hK K)|(refine jad (fun hc=>?_) (fun hc=>?_)<;>first | contradiction | (exfalso;omega) | skip)|refine cp (jhK _) ?_|refine cp (jkb _) ?_|refine cp (jzS s a hs ha) ?_|refine cp (jzI _ (by omega) (by omega)) ?_|refine wkB ?_|exact True.intro|(clear hK K)))
 ·have hKo:=hK;clear hK
  refine jag (S:=Nat) [(8,1),(20,12)] (fun m=>a≤m∧m≤s.size∧∀ j,a≤j→j < m→jbq (jaG s j)=true) (fun m=>[(8,rI m)]) (fun _=>⟨[],[(0,.var 169 (jb5 jxI))]⟩) (fun m=>s.size - m) a ⟨by omega,by omega,fun j h1 h2=>by omega⟩ (jau rfl lle) ?_
  rintro m ⟨hm1,hm2,hm3⟩ Kr hKr
  (refine S ?_;try exact True.intro)
  (repeat' (first|refine jaa fun K hK=>?_|refine wkA ?_|(refine hK _ _ ?_;clear hK K)|(refine jad (fun hc=>?_) (fun hc=>?_)<;>first | contradiction | (exfalso;omega) | skip)|(first | refine cg (jhK _) ?_ | refine cg' (jhK _) ?_)|(refine hKo _ _ ?_)|refine wkB ?_|exact True.intro|(clear hK K)))
  ·refine hKr _ _ (jar (m+1) ⟨by omega,by omega,fun j h1 h2=>?_⟩ (by (try simp only);omega) rfl lle)
   by_cases e:j=m
   ·subst e;exact hc.2
   ·exact hm3 j h1 (by omega)
  ·have hd:jbq (jaG s a)=true:=by assumption
   have e:jcA jbq s a=m:=jhx (by rintro ⟨h1,h2⟩;rcases hc with h | h;omega;rw [h2] at h;cases h) hm1 hm2 hm3
   (repeat' (first|refine jaa fun K hK=>?_|refine wkA ?_|(refine hK _ _ ?_;clear hK K)|(refine jad (fun hc=>?_) (fun hc=>?_)<;>first | contradiction | (exfalso;omega) | skip)|refine cp (jtg _) ?_|refine wkB ?_|exact True.intro|(clear hK K)))
   ·(refine jaU [.cell 4 169,.tmp 5,.tmp 6] ?_;try simp only [go_sem])
    simp only [jbi,hd,if_true,e,if_neg,hc,Bool.false_eq_true,if_false,jsk,jxI]
    rfl
   ·(refine jaU [.cell 4 169,.tmp 5,.tmp 6] ?_;try simp only [go_sem])
    simp only [jbi,hd,if_true,e,hc,jsk]
    rfl
 ·have hKo:=hK;clear hK
  have hnd:jbq (jaG s a)=false:=by assumption
  have hle:jfX (jaG s a)=true:=by assumption
  refine jag (S:=Nat) [(8,1),(49,24)] (fun m=>a≤m∧m≤s.size∧∀ j,a≤j→j < m→jpG (jaG s j)=true) (fun m=>[(8,rI m)]) (fun _=>⟨[],[(0,.var 169 (jb5 jxI))]⟩) (fun m=>s.size - m) a ⟨by omega,by omega,fun j h1 h2=>by omega⟩ (jau rfl lle) ?_
  rintro m ⟨hm1,hm2,hm3⟩ Kr hKr
  have hexm:(s.extract a m).size=m - a:=by rw [ByteArray.size_extract];omega
  (refine S ?_;try exact True.intro)
  (repeat' (first|refine jaa fun K hK=>?_|refine wkA ?_|(refine hK _ _ ?_;clear hK K)|(refine jad (fun hc=>?_) (fun hc=>?_)<;>first | contradiction | (exfalso;omega) | skip)|(first | refine cg (jhK _) ?_ | refine cg' (jhK _) ?_)|(first | refine cg (jkb _) ?_ | refine cg' (jkb _) ?_)|refine cp (j0k _) ?_|(refine hKo _ _ ?_)|refine wkB ?_|exact True.intro|(clear hK K)))
  ·refine hKr _ _ (jar (m+1) ⟨by omega,by omega,fun j h1 h2=>?_⟩ (by (try simp only);omega) rfl lle)
   by_cases e:j=m
   ·subst e;simp only [jpG,Bool.or_eq_true,decide_eq_true_eq];exact hc.2
   ·exact hm3 j h1 (by omega)
  all_goals
   have hcc:(s.size:Int)≤m∨(jfX (jaG s m)=false∧jbq (jaG s m)=false)∧¬jaG s m=95:=by assumption
   have e:jcA jpG s a=m:=jhx (by
    simp only [jpG,Bool.or_eq_true,decide_eq_true_eq]
    rintro ⟨h1,h2⟩
    rcases hcc with h | ⟨⟨h3,h4⟩,h5⟩
    ·omega
    ·rcases h2 with (h | h) | h
     ·rw [h] at h3;exact Bool.noConfusion h3
     ·rw [h] at h4;exact Bool.noConfusion h4
     ·exact h5 h) hm1 hm2 hm3
  ·(refine jaU [.cell 4 169,.tmp 5,.tmp 6] ?_;try simp only [go_sem])
   simp only [jbi,hnd,hle,e,hc,Bool.false_eq_true,if_false,if_true,jsk]
   rfl
  ·(refine jaU [.cell 4 169,.tmp 5,.tmp 6] ?_;try simp only [go_sem])
   simp only [jbi,hnd,hle,e, *,Bool.false_eq_true,if_false,if_true,jsk]
   rw [if_pos (by omega)]
   rfl
  ·(refine jaU [.cell 4 169,.tmp 5,.tmp 6] ?_;try simp only [go_sem])
   simp only [jbi,hnd,hle,e, *,Bool.false_eq_true,if_false,if_true,jsk]
   rw [if_neg (by omega)]
   rfl
 ·(refine jaU [.cell 4 169,.tmp 5,.tmp 6] ?_;try simp only [go_sem])
  simp only [jbi, *,Bool.false_eq_true,if_false,if_true,jsk]
  rfl
 ·(refine jaU [.cell 4 169,.tmp 5,.tmp 6] ?_;try simp only [go_sem])
  simp only [jbi, *,Bool.false_eq_true,if_false,if_true,jsk]
  rfl
 ·(refine jaU [.cell 4 169,.tmp 5,.tmp 6] ?_;try simp only [go_sem])
  simp only [jbi, *,Bool.false_eq_true,if_false,jsk]
  rfl
attribute [go_sem] jsk
set_option maxHeartbeats 2000000 in
set_option maxRecDepth 10000 in
theorem jzi (s:ByteArray) (hs:s.size≤1000000):PCall Tryz.prog 69 [rS s] (.tup [jaI jb5 3 (jb7 s).1,rI (jb7 s).2.1,rI (jb7 s).2.2]):=by
 refine jbO Tryz.func69 Tryz.ntmps69 ?_
 (repeat' (first|refine jaa fun K hK=>?_|refine wkA ?_|(refine hK _ _ ?_;clear hK K)|(refine jad (fun hc=>?_) (fun hc=>?_)<;>first | contradiction | (exfalso;omega) | skip)|refine cp (juB s 0 hs (Nat.zero_le _)) ?_|refine wkB ?_|exact True.intro|(clear hK K)))
 ·refine jfG [.tmp 2,.tmp 3,.tmp 4] ?_
  simp only [jb7,if_pos hc]
  refine VToL.tup ?_
  exact vtl
 ·have hKo:=hK;clear hK
  have h0:=jjn (s:=s) (i:=0) (Nat.zero_le _)
  refine jag (S:=Nat×List GToken) [(2,8),(16,22)] (fun p=>p.1≤s.size∧p.2.length≤p.1∧jxB s p.1 p.2=jb7 s) (fun p=>[(5,.rs 0 p.2.length 3 p.2.length),(6,rI p.1)]) (fun p=>⟨[],[(0,.vec 169 3 (p.2.map jb5))]⟩) (fun p=>s.size - p.1) (skE s 0,[]) ⟨h0.2,Nat.zero_le _,by simp only [jb7];rw [if_neg (by omega)]⟩ (jau rfl lle) ?_
  rintro ⟨k,ts⟩ ⟨hk1,hk2,hk3⟩ Kr hKr
  simp only at hk1 hk2 hk3
  (refine S ?_;try exact True.intro)
  by_cases hk:k < s.size
  ·have hend:=jfe (s:=s) (a:=k) hk
   (repeat' (first|refine jaa fun K hK=>?_|refine wkA ?_|(refine hK _ _ ?_;clear hK K)|(refine jad (fun hc=>?_) (fun hc=>?_)<;>first | contradiction | (exfalso;omega) | skip)|refine cp (j2x s k hs hk) ?_|refine wkB ?_|exact True.intro|(clear hK K)))
   ·refine jfG [.tmp 2,.tmp 3,.tmp 4] ?_
    rw [← hk3,jqA hk (by assumption)]
    refine VToL.tup ?_
    exact vtl
   ·obtain ⟨e,he1,he2,he3⟩:=hend hc
    have h4:=jjn he3
    rw [he1]
    (repeat' (first|refine jaa fun K hK=>?_|refine wkA ?_|(refine hK _ _ ?_;clear hK K)|(refine jad (fun hc=>?_) (fun hc=>?_)<;>first | contradiction | (exfalso;omega) | skip)|refine cp (juB s e hs he3) ?_|refine wkB ?_|exact True.intro|(clear hK K)))
    refine hKr _ _ (jaM [1] (skE s e,ts++[(jbi s k).1]) ⟨h4.2,by simp;omega,by rw [← hk3,jqB hk hc,he1];simp⟩ (by (try simp only);omega) rfl Sd Sd vtl)
  ·(repeat' (first|refine jaa fun K hK=>?_|refine wkA ?_|(refine hK _ _ ?_;clear hK K)|(refine jad (fun hc=>?_) (fun hc=>?_)<;>first | contradiction | (exfalso;omega) | skip)|(refine hKo _ _ ?_)|refine wkB ?_|exact True.intro|(clear hK K)))
   refine jfG [.tmp 2,.tmp 3,.tmp 4] ?_
   rw [← hk3,js8 hk]
   simp only [go_sem]
   refine VToL.tup ?_
   refine And.intro ?_ (And.intro (.same _ rfl) (And.intro (.same _ rfl) trivial))
   refine VTo.row (enc:=jb5) (e:=169) (ts++[⟨0,⟨#[]⟩,s.size⟩]) ?_ ?_ ?_
   ·rfl
   ·(refine S ?_;try exact True.intro)
    rfl
   ·(refine S ?_;try exact True.intro)
def ja1 (r:Rd):List AV:=[rS r.src,jaI jb5 3 r.l,rI r.i,.rs 1 r.nodes.length 5 r.nodes.length,rI r.deep,rI r.e,rI r.at_]
def jbv (r:Rd):List (Nat×Row):=[(0,.var 128 (ja1 r)),(1,.vec 68 5 (r.nodes.map jaH))]
attribute [go_sem] jbv ja1
abbrev pR:AV:=.pt 0 0 0 0
structure ROk (r:Rd):Prop where
 src:r.src.size≤1000
 pos:0≤r.i
 lt:r.i < r.l.length
 len:r.l.length≤2000
 dlo:-1000≤r.deep
 dhi:r.deep≤1000
 nodes:r.nodes.length≤100000
theorem rok {r:Rd} (h:r.Inv):ROk r:=by
 have hp:=h.pot
 unfold Rd.pot at hp
 have:=h.lt
 have:=h.dlo
 have:=h.dhi
 exact ⟨h.src,h.pos,h.lt,h.len,by omega,by omega,by split at hp<;>omega⟩
set_option maxHeartbeats 1000000 in
set_option maxRecDepth 10000 in
theorem jfw (r:Rd) (e:Int) (h:ROk r):ACalls Tryz.prog 149 [pR,rI e] (jbv r) (fun v l=>v=.tup []∧l=jbv (r.fails e)):=by
 obtain ⟨h1,h2,h3,h4,h5,h6,h7⟩:=h
 refine jaR Tryz.func149 Tryz.ntmps149 ?_
 simp only [jbv,ja1]
 (repeat' (first|refine jaa fun K hK=>?_|refine wkA ?_|(with_reducible refine gR 2 ?_);refine dE 2 [0,1,2,3,4,5,6,7,8,9,10,11,12,13,14] mixed ?_|(refine hK _ _ ?_;clear hK K)|(refine jad (fun hc=>?_) (fun hc=>?_)<;>first | contradiction | (exfalso;omega) | skip)|refine wkB ?_|exact True.intro|(clear hK K)))
 ·(refine jbV [] ?_ ?_<;>(try simp only [go_sem]))
  simp only [Rd.fails,if_pos hc];rfl
 ·(refine jbV [] ?_ ?_<;>(try simp only [go_sem]))
  simp only [Rd.fails,if_neg hc]
set_option maxHeartbeats 1000000 in
set_option maxRecDepth 10000 in
theorem jeF (r:Rd) (t:ByteArray) (h:ROk r):ACalls Tryz.prog 114 [pR,rS t] (jbv r) (fun v l=>v=rB (r.is t)∧l=jbv r):=by
 obtain ⟨h1,h2,h3,h4,h5,h6,h7⟩:=h
 refine jaR Tryz.func114 Tryz.ntmps114 ?_
 simp only [jbv,ja1]
 (repeat' (first|refine jaa fun K hK=>?_|refine wkA ?_|(with_reducible refine gR 1 ?_);refine dE 1 [0,1,2,3,4,5,6,7,8,9,10,11] mixed ?_|(refine hK _ _ ?_;clear hK K)|(refine jad (fun hc=>?_) (fun hc=>?_)<;>first | contradiction | (exfalso;omega) | skip)|refine wkB ?_|exact True.intro|(clear hK K)))
 (refine jaU [.tmp 4] ?_;try simp only [go_sem])
 rfl
set_option maxHeartbeats 1000000 in
set_option maxRecDepth 10000 in
theorem jk7 (r:Rd) (k:Int) (h:ROk r):ACalls Tryz.prog 70 [pR,rI k] (jbv r) (fun v l=>v=rB (r.kind k)∧l=jbv r):=by
 obtain ⟨h1,h2,h3,h4,h5,h6,h7⟩:=h
 refine jaR Tryz.func70 Tryz.ntmps70 ?_
 simp only [jbv,ja1]
 (repeat' (first|refine jaa fun K hK=>?_|refine wkA ?_|(with_reducible refine gR 1 ?_);refine dE 1 [0,1,2,3,4,5,6,7,8,9,10,11,12,13,14,15,16,17,18,19,20] mixed ?_|(refine hK _ _ ?_;clear hK K)|(refine jad (fun hc=>?_) (fun hc=>?_)<;>first | contradiction | (exfalso;omega) | skip)|refine wkB ?_|exact True.intro|(clear hK K)))
 (refine jaU [.tmp 4] ?_;try simp only [go_sem])
 rfl
set_option maxHeartbeats 1000000 in
set_option maxRecDepth 10000 in
theorem jbR (r:Rd) (t:ByteArray) (h:ROk r):ACalls Tryz.prog 112 [pR,rS t] (jbv r) (fun v l=>v=.tup []∧l=jbv (r.must t)):=by
 have his:=jeF r t h
 have hf:=jfw r 20 h
 obtain ⟨h1,h2,h3,h4,h5,h6,h7⟩:=h
 simp only [jbv,ja1] at his hf
 refine jaR Tryz.func112 Tryz.ntmps112 ?_
 simp only [jbv,ja1]
 (repeat' (first|refine jaa fun K hK=>?_|refine wkA ?_|(refine hK _ _ ?_;clear hK K)|(refine jad (fun hc=>?_) (fun hc=>?_)<;>first | contradiction | (exfalso;omega) | skip)|refine cm (his) ?_|refine cm (hf) ?_|refine wkB ?_|exact True.intro|(clear hK K)))
 ·(refine jbV [] ?_ ?_<;>(try simp only [go_sem]))
  simp only [Rd.must,hc,Bool.false_eq_true,if_false,go_sem]
 ·(refine jbV [] ?_ ?_<;>(try simp only [go_sem]))
  simp only [Rd.must,hc,if_true];rfl
set_option maxHeartbeats 1000000 in
set_option maxRecDepth 10000 in
theorem jjb (r:Rd) (h:ROk r):ACalls Tryz.prog 113 [pR] (jbv r) (fun v l=>v=rS r.name.2∧l=jbv r.name.1):=by
 have his:=jk7 r 3 h
 have hf:=jfw r 20 h
 obtain ⟨h1,h2,h3,h4,h5,h6,h7⟩:=h
 simp only [jbv,ja1] at his hf
 refine jaR Tryz.func113 Tryz.ntmps113 ?_
 simp only [jbv,ja1]
 (repeat' (first|refine jaa fun K hK=>?_|refine wkA ?_|(with_reducible refine gR 6 ?_);refine dE 6 [0,1,2,3,4,5,6,7,8,9,10,11,12] mixed ?_|(refine hK _ _ ?_;clear hK K)|(refine jad (fun hc=>?_) (fun hc=>?_)<;>first | contradiction | (exfalso;omega) | skip)|refine cm (his) ?_|refine cm (hf) ?_|refine wkB ?_|exact True.intro|(clear hK K)))
 ·(refine jbV [.tmp 2] ?_ ?_<;>(try simp only [go_sem]))
  ·simp only [Rd.name,hc,Bool.false_eq_true,if_false]
  ·simp only [Rd.name,hc,Bool.false_eq_true,if_false,go_sem]
 ·(refine jbV [.tmp 2] ?_ ?_<;>(try simp only [go_sem]))
  ·simp only [Rd.name,hc,if_true]
   rw [show r.i+1 - 1=r.i by omega];rfl
  ·simp only [Rd.name,hc,if_true];rfl
set_option maxHeartbeats 1000000 in
set_option maxRecDepth 10000 in
theorem jaX (r:Rd) (h:ROk r):ACalls Tryz.prog 111 [pR] (jbv r) (fun v l=>v=rI r.line∧l=jbv r):=by
 obtain ⟨h1,h2,h3,h4,h5,h6,h7⟩:=h
 refine jaR Tryz.func111 Tryz.ntmps111 ?_
 simp only [jbv,ja1]
 (repeat' (first|refine jaa fun K hK=>?_|refine wkA ?_|(with_reducible refine gR 1 ?_);refine dE 1 [0,1,2,3,4,5,6,7,8,9,10,11,12,13,14,15,16] mixed ?_|(refine hK _ _ ?_;clear hK K)|(refine jad (fun hc=>?_) (fun hc=>?_)<;>first | contradiction | (exfalso;omega) | skip)|refine cp (jzj _ _ (by omega)) ?_|refine wkB ?_|exact True.intro|(clear hK K)))
 (refine jbV [.tmp 2] ?_ ?_<;>(try simp only [go_sem]))
 rfl
set_option maxHeartbeats 1000000 in
set_option maxRecDepth 10000 in
theorem jq5 (r:Rd) (k ln n:Int) (nm:ByteArray) (L:List Int) (h:ROk r):ACalls Tryz.prog 154 [pR,rI k,rI ln,rI n,rS nm,jaI eI 1 L] (jbv r) (fun v l=>v=rI (r.put k ln n nm L).2∧l=jbv (r.put k ln n nm L).1):=by
 obtain ⟨h1,h2,h3,h4,h5,h6,h7⟩:=h
 refine jaR Tryz.func154 Tryz.ntmps154 ?_
 simp only [jbv,ja1]
 (repeat' (first|refine jaa fun K hK=>?_|refine wkA ?_|(refine hK _ _ ?_;clear hK K)|(refine jad (fun hc=>?_) (fun hc=>?_)<;>first | contradiction | (exfalso;omega) | skip)|refine wkB ?_|exact True.intro|(clear hK K)))
 (refine jbV [.tmp 12] ?_ ?_<;>(try simp only [go_sem]))
 ·simp only [Rd.put];exact jrl (by omega)
 ·simp only [Rd.put,Rd.node,List.map_append,List.length_append,List.length_cons,List.length_nil];rfl
set_option maxHeartbeats 1000000 in
set_option maxRecDepth 10000 in
theorem jhL (r:Rd) (h:ROk r):ACalls Tryz.prog 152 [pR] (jbv r) (fun v l=>v=.tup []∧l=jbv r.down):=by
 have hf:=jfw r 21 h
 obtain ⟨h1,h2,h3,h4,h5,h6,h7⟩:=h
 simp only [jbv,ja1] at hf
 refine jaR Tryz.func152 Tryz.ntmps152 ?_
 simp only [jbv,ja1]
 (repeat' (first|refine jaa fun K hK=>?_|refine wkA ?_|(refine hK _ _ ?_;clear hK K)|(refine jad (fun hc=>?_) (fun hc=>?_)<;>first | contradiction | (exfalso;omega) | skip)|refine cm (hf) ?_|refine wkB ?_|exact True.intro|(clear hK K)))
 ·(refine jbV [] ?_ ?_<;>(try simp only [go_sem]))
  simp only [Rd.down,if_pos hc,go_sem]
 ·(refine jbV [] ?_ ?_<;>(try simp only [go_sem]))
  simp only [Rd.down];rw [if_neg (by omega)]
set_option maxHeartbeats 1000000 in
set_option maxRecDepth 10000 in
theorem jeg (r:Rd) (h:ROk r):ACalls Tryz.prog 150 [pR] (jbv r) (fun v l=>v=rS r.word∧l=jbv r):=by
 have his:=jk7 r 4 h
 obtain ⟨h1,h2,h3,h4,h5,h6,h7⟩:=h
 simp only [jbv,ja1] at his
 refine jaR Tryz.func150 Tryz.ntmps150 ?_
 simp only [jbv,ja1]
 (repeat' (first|refine jaa fun K hK=>?_|refine wkA ?_|(with_reducible refine gR 3 ?_);refine dE 3 [0,1,2,3,4,5,6,7,8,9,10,11] mixed ?_|(refine hK _ _ ?_;clear hK K)|(refine jad (fun hc=>?_) (fun hc=>?_)<;>first | contradiction | (exfalso;omega) | skip)|refine cm (his) ?_|refine wkB ?_|exact True.intro|(clear hK K)))
 ·(refine jbV [.tmp 2] ?_ ?_<;>(try simp only [go_sem]))
  simp only [Rd.word,hc,if_true];rfl
 ·(refine jbV [.tmp 2] ?_ ?_<;>(try simp only [go_sem]))
  simp only [Rd.word,hc,Bool.false_eq_true,if_false]
set_option maxHeartbeats 1000000 in
set_option maxRecDepth 10000 in
theorem jtr (r:Rd) (h:ROk r) (hn:r.kind 3=true→r.i+1 < r.l.length):ACalls Tryz.prog 186 [pR] (jbv r) (fun v l=>v=rB r.calls∧l=jbv r):=by
 have his:=jk7 r 3 h
 obtain ⟨h1,h2,h3,h4,h5,h6,h7⟩:=h
 simp only [jbv,ja1] at his
 refine jaR Tryz.func186 Tryz.ntmps186 ?_
 simp only [jbv,ja1]
 (repeat' (first|refine jaa fun K hK=>?_|refine wkA ?_|(with_reducible refine gR 2 ?_);refine dE 2 [0,1,2,3,4,5,6,7,8,9,10,11,12,13,14,15,16,17,18,19,20,21,22,23,24,25,26,27,28,29,30,31] mixed ?_|(refine hK _ _ ?_;clear hK K)|(refine jad (fun hc=>?_) (fun hc=>?_)<;>first | contradiction | (exfalso;omega) | skip)|refine cm (his) ?_|refine wkB ?_|exact True.intro|(clear hK K)))
 refine ⟨fun h=>⟨h,by omega,hn h⟩,fun h=>⟨h,by omega,hn (by simp only [Bool.and_eq_true] at h;exact h.1)⟩,?_⟩
 (repeat' (first|refine jaa fun K hK=>?_|refine wkA ?_|(refine hK _ _ ?_;clear hK K)|(refine jad (fun hc=>?_) (fun hc=>?_)<;>first | contradiction | (exfalso;omega) | skip)|refine wkB ?_|exact True.intro|(clear hK K)))
 (refine jaU [.tmp 2] ?_;try simp only [go_sem])
 rfl
set_option maxHeartbeats 1000000 in
set_option maxRecDepth 10000 in
theorem jwl (lv:Int):PCall Tryz.prog 211 [rI lv] (jaI eS 1 (jcC lv)):=by
 refine jbO Tryz.func211 Tryz.ntmps211 ?_
 (repeat' (first|refine jaa fun K hK=>?_|refine wkA ?_|(refine hK _ _ ?_;clear hK K)|(refine jad (fun hc=>?_) (fun hc=>?_)<;>first | contradiction | (exfalso;omega) | skip)|refine wkB ?_|exact True.intro|(clear hK K)))
 all_goals refine jfG [.tmp 2] ?_
 all_goals simp only [jcC, *,if_true,if_false,Int.reduceEq,if_pos,if_neg,not_false_eq_true]
 all_goals exact .lit _ _ _ _ _
theorem jpi (lv:Int):(jcC lv).length≤4∧∀ s∈jcC lv,s≠⟨#[]⟩:=by
 unfold jcC
 split
 ·decide
 ·split
  ·decide
  ·split
   ·decide
   ·split<;>decide
set_option maxHeartbeats 1000000 in
set_option maxRecDepth 10000 in
theorem juq (r:Rd) (lv:Int) (h:ROk r):ACalls Tryz.prog 203 [pR,rI lv] (jbv r) (fun v l=>v=rS (r.next lv)∧l=jbv r):=by
 have his:=fun t=>jeF r t h
 have hl:=jpi lv
 obtain ⟨h1,h2,h3,h4,h5,h6,h7⟩:=h
 simp only [jbv,ja1] at his
 refine jaR Tryz.func203 Tryz.ntmps203 ?_
 simp only [jbv,ja1]
 (repeat' (first|refine jaa fun K hK=>?_|refine wkA ?_|(refine hK _ _ ?_;clear hK K)|(refine jad (fun hc=>?_) (fun hc=>?_)<;>first | contradiction | (exfalso;omega) | skip)|refine cp (jwl lv) ?_|refine wkB ?_|exact True.intro|(clear hK K)))
 have hKo:=hK;clear hK
 refine jag (S:=Nat) [(4,1),(6,2),(10,17)] (fun k=>k≤(jcC lv).length∧∀ j,j < k→r.is (nth (jcC lv) j)=false) (fun k=>[(6,rI k)]) (fun _=>⟨[0,1],jbv r⟩) (fun k=>(jcC lv).length - k) 0 ⟨by omega,fun j h=>by omega⟩ (jau rfl lle) ?_
 rintro k ⟨hk1,hk2⟩ Kr hKr
 simp only [jbv,ja1]
 (refine S ?_;try exact True.intro)
 (repeat' (first|refine jaa fun K hK=>?_|refine wkA ?_|(refine hK _ _ ?_;clear hK K)|(refine jad (fun hc=>?_) (fun hc=>?_)<;>first | contradiction | (exfalso;omega) | skip)|refine cm (his _) ?_|(refine hKo _ _ ?_)|refine wkB ?_|exact True.intro|(clear hK K)))
 ·(refine jbV [.tmp 4] ?_ ?_<;>(try simp only [go_sem]))
  have:(jcC lv).find? (fun s=>r.is s)=some (nth (jcC lv) k):=je1 hk2 (by omega) hc
  simp only [Rd.next,this]
 ·refine hKr _ _ (jar (k+1) ⟨by omega,fun j hj=>?_⟩ (by (try simp only);omega) rfl lle)
  by_cases e:j=k
  ·subst e;exact hc
  ·exact hk2 j (by omega)
 ·(refine jbV [.tmp 4] ?_ ?_<;>(try simp only [go_sem]))
  have:(jcC lv).find? (fun s=>r.is s)=none:=jhS fun j hj=>hk2 j (by omega)
  simp only [Rd.next,this]
theorem jhC {P:Program} {f:FuncId} {args args':List AV} {l:List (Nat×Row)} {R:AV→List (Nat×Row)→Prop} (hl:VLes args args') (h:ACalls P f args' l R):ACalls P f args l R:=fun w vs h1 h2=>by
 obtain ⟨hlen,hg⟩:=hl.get
 refine h w vs h1 ⟨hlen.symm.trans h2.1,fun i a v ha hv=>?_⟩
 have hi:i < args.length:=by rw [hlen];exact (List.getElem?_eq_some_iff.1 ha).1
 exact hg i args[i] a (List.getElem?_eq_getElem hi) ha w v (h2.2 i _ v (List.getElem?_eq_getElem hi) hv)
theorem jdY (r:Rd) (k ln n:Int) (nm:ByteArray) (L:List Int) (a:AV) (ha:VLe a (jaI eI 1 L)) (h:ROk r):ACalls Tryz.prog 154 [pR,rI k,rI ln,rI n,rS nm,a] (jbv r) (fun v l=>v=rI (r.put k ln n nm L).2∧l=jbv (r.put k ln n nm L).1):=
 jhC (args':=[pR,rI k,rI ln,rI n,rS nm,jaI eI 1 L]) ⟨VLe.refl _,VLe.refl _,VLe.refl _,VLe.refl _,VLe.refl _,ha,trivial⟩ (jq5 r k ln n nm L h)
def juJ (n:Nat):Prop:=∀ r:Rd,r.Inv→8 * r.rem+1≤n→ACalls Tryz.prog 210 [pR] (jbv r) (fun v l=>v=rI (jgn n r).2∧l=jbv (jgn n r).1)
def jjA (n:Nat):Prop:=∀ r:Rd,r.Inv→8 * r.rem+2≤n→ACalls Tryz.prog 202 [pR] (jbv r) (fun v l=>v=rI (jaV n r).2∧l=jbv (jaV n r).1)
def jm9 (n:Nat):Prop:=∀ (lv:Nat) (r:Rd),lv≤5→r.Inv→8 * r.rem+8 - lv≤n→ACalls Tryz.prog 188 [pR,rI lv] (jbv r) (fun v l=>v=rI (jaw n lv r).2∧l=jbv (jaw n lv r).1)
set_option maxHeartbeats 2000000 in
set_option maxRecDepth 10000 in
theorem jsQ (n:Nat) (ha:juJ n) (hf:jjA n):jjA (n+1):=by
 intro r h hn
 have sg:∀ t,r.is t=true→r.e=0∧r.down.Inv∧r.down.inc.Inv∧r.down.inc.rem+1≤r.rem:=fun t ht=>by
  obtain ⟨he,hk⟩:=Rd.is_kind ht
  obtain ⟨h1,h2,h3,h4,_⟩:=Rd.down_inv h he
  have htk:r.down.tok=r.tok:=by unfold Rd.tok;rw [h3,h4]
  obtain ⟨s1,e1⟩:=Rd.st_inc h1 (by rw [htk];exact hk)
  have:=s1.inv h1
  have hb:=Rd.behind h1 (by rw [htk];exact hk)
  refine ⟨he,h1,this,?_⟩
  unfold Rd.rem
  rw [if_pos he]
  have:r.down.inc.i=r.i+1:=by show r.down.i+1=_;rw [h3]
  have hl:r.down.inc.l=r.l:=h4
  rw [this,hl]
  rw [h3,h4] at hb
  split<;>omega
 by_cases hm:r.is (⟨#[45]⟩:ByteArray)=true
 ·obtain ⟨he,h1,h2,h3⟩:=sg _ hm
  have s2:=(jeB n).2.1 _ h2
  have h4:=s2.inv h2
  have h5:(jaV n r.down.inc).1.up.Inv:=(Rd.st_deep h he ((Rd.st_inc h1 (by obtain ⟨_,_,h3,h4,_⟩:=Rd.down_inv h he;unfold Rd.tok;rw [h3,h4];exact (Rd.is_kind hm).2)).1.trans s2)).inv h
  have hd1:=h2.dlo
  have hd2:=h2.dhi
  have hi1:=h1.lt
  have hi2:=h1.len
  have hi3:=h1.pos
  have hd3:=h4.dlo
  have hd4:=h4.dhi
  rw [jaV,if_pos hm]
  refine jaR Tryz.func202 Tryz.ntmps202 ?_
  (refine S ?_;try exact True.intro)
  (have W:=hm;repeat' (first|refine jaa fun K hK=>?_|refine wkA ?_|(refine hK _ _ ?_;clear hK K)|(refine jad (fun hc=>?_) (fun hc=>?_)<;>first | contradiction | (exfalso;omega) | skip)|refine cm (jaX r (rok h)) ?_|refine cm (jeF r _ (rok h)) ?_|refine cm (jhL r (rok h)) ?_|refine cm (hf r.down.inc h2 (by omega)) ?_|refine cm (jdY (jaV n r.down.inc).1.up _ _ _ _ [(jaV n r.down.inc).2] _ VLe.sl (rok h5)) ?_|refine wkB ?_|exact True.intro|(clear hK K)));all_goals (try clear W)
  (refine jbV [.tmp 2] ?_ ?_<;>(try simp only [go_sem]))
 ·have hmf:r.is (⟨#[45]⟩:ByteArray)=false:=by simpa using hm
  by_cases hq:r.is (⟨#[33]⟩:ByteArray)=true
  ·obtain ⟨he,h1,h2,h3⟩:=sg _ hq
   have s2:=(jeB n).2.1 _ h2
   have h4:=s2.inv h2
   have h5:(jaV n r.down.inc).1.up.Inv:=(Rd.st_deep h he ((Rd.st_inc h1 (by obtain ⟨_,_,h3,h4,_⟩:=Rd.down_inv h he;unfold Rd.tok;rw [h3,h4];exact (Rd.is_kind hq).2)).1.trans s2)).inv h
   have hd1:=h2.dlo
   have hd2:=h2.dhi
   have hi1:=h1.lt
   have hi2:=h1.len
   have hi3:=h1.pos
   have hd3:=h4.dlo
   have hd4:=h4.dhi
   rw [jaV,if_neg hm,if_pos hq]
   refine jaR Tryz.func202 Tryz.ntmps202 ?_
   (refine S ?_;try exact True.intro)
   (have W:=And.intro hmf (hq);repeat' (first|refine jaa fun K hK=>?_|refine wkA ?_|(refine hK _ _ ?_;clear hK K)|(refine jad (fun hc=>?_) (fun hc=>?_)<;>first | contradiction | (exfalso;omega) | skip)|refine cm (jaX r (rok h)) ?_|refine cm (jeF r _ (rok h)) ?_|refine cm (jhL r (rok h)) ?_|refine cm (hf r.down.inc h2 (by omega)) ?_|refine cm (jdY (jaV n r.down.inc).1.up _ _ _ _ [(jaV n r.down.inc).2] _ VLe.sl (rok h5)) ?_|refine wkB ?_|exact True.intro|(clear hK K)));all_goals (try clear W)
   (refine jbV [.tmp 2] ?_ ?_<;>(try simp only [go_sem]))
  ·have hqf:r.is (⟨#[33]⟩:ByteArray)=false:=by simpa using hq
   rw [jaV,if_neg hm,if_neg hq]
   refine jaR Tryz.func202 Tryz.ntmps202 ?_
   (refine S ?_;try exact True.intro)
   (have W:=And.intro hmf (hqf);repeat' (first|refine jaa fun K hK=>?_|refine wkA ?_|(refine hK _ _ ?_;clear hK K)|(refine jad (fun hc=>?_) (fun hc=>?_)<;>first | contradiction | (exfalso;omega) | skip)|refine cm (jaX r (rok h)) ?_|refine cm (jeF r _ (rok h)) ?_|refine cm (ha r h (by omega)) ?_|refine wkB ?_|exact True.intro|(clear hK K)));all_goals (try clear W)
   (refine jbV [.tmp 2] ?_ ?_<;>(try simp only [go_sem]))
set_option maxHeartbeats 4000000 in
set_option maxRecDepth 10000 in
theorem ju2 (n:Nat) (hf:jjA n) (hcc:∀ m,m≤n→jm9 m):jm9 (n+1):=by
 intro lv r hlv h hn
 have hch:∀ (m:Nat) (q:Rd),m≤n→lv+1≤5→q.Inv→8 * q.rem+7 - lv≤m→ACalls Tryz.prog 188 [pR,rI ((lv:Int)+1)] (jbv q) (fun v l=>v=rI (jaw m (lv+1) q).2∧l=jbv (jaw m (lv+1) q).1):=fun m q hm hl hq hr=>by
  have:=hcc m hm (lv+1) q hl hq (by omega)
  rw [show ((lv+1:Nat):Int)=(lv:Int)+1 from by omega] at this
  exact this
 by_cases h5:lv=5
 ·subst h5
  rw [jaw,if_pos rfl]
  refine jaR Tryz.func188 Tryz.ntmps188 ?_
  (refine S ?_;try exact True.intro)
  (repeat' (first|refine jaa fun K hK=>?_|refine wkA ?_|(refine hK _ _ ?_;clear hK K)|(refine jad (fun hc=>?_) (fun hc=>?_)<;>first | contradiction | (exfalso;omega) | skip)|refine cm (hf r h (by omega)) ?_|refine wkB ?_|exact True.intro|(clear hK K)))
  (refine jbV [.tmp 4] ?_ ?_<;>(try simp only [go_sem]))
 ·rw [jaw,if_neg h5]
  have s1:=(jeB n).2.2.1 (lv+1) r h
  have h1:=s1.inv h
  have hr1:=s1.rem
  refine jaR Tryz.func188 Tryz.ntmps188 ?_
  (refine S ?_;try exact True.intro)
  (repeat' (first|refine jaa fun K hK=>?_|refine wkA ?_|(refine hK _ _ ?_;clear hK K)|(refine jad (fun hc=>?_) (fun hc=>?_)<;>first | contradiction | (exfalso;omega) | skip)|refine cm (jaX r (rok h)) ?_|refine cm (hch n r (Nat.le_refl _) (by omega) h (by omega)) ?_|refine wkB ?_|exact True.intro|(clear hK K)))
  refine jag (S:=Nat×Rd×Int) [(4,1),(6,3),(19,27)] (fun s=>s.2.1.Inv∧8 * s.2.1.rem+7 - lv≤s.1∧s.1≤n∧jfj s.1 lv r.line s.2=jfj n lv r.line (jaw n (lv+1) r)) (fun s=>[(6,rI s.2.2)]) (fun s=>⟨[0,1],jbv s.2.1⟩) (fun s=>s.1) (n,jaw n (lv+1) r) ⟨h1,by (try simp only);omega,Nat.le_refl _,rfl⟩ (jau rfl lle) ?_
  rintro ⟨m,q,x⟩ ⟨hq,hm1,hm2,hm3⟩ Kr hKr
  simp only at hq hm1 hm2 hm3
  rw [← hm3]
  obtain ⟨m,rfl⟩:∃ k,m=k+1:=⟨m - 1,by omega⟩
  have hql:=hq.lt
  have hqp:=hq.pos
  have hqn:=hq.len
  by_cases hx:q.next lv=⟨#[]⟩
  ·rw [jfj,if_pos hx]
   (refine S ?_;try exact True.intro)
   (have W:=hx;repeat' (first|refine jaa fun K hK=>?_|refine wkA ?_|(refine hK _ _ ?_;clear hK K)|(refine jad (fun hc=>?_) (fun hc=>?_)<;>first | contradiction | (exfalso;omega) | skip)|refine cm (juq q lv (rok hq)) ?_|refine wkB ?_|exact True.intro|(clear hK K)));all_goals (try clear W)
   (refine jbV [.tmp 4] ?_ ?_<;>(try simp only [go_sem]))
  ·have hk:=Rd.is_kind (Rd.next_is hx)
   obtain ⟨t1,e1⟩:=Rd.st_inc hq hk.2
   have hi:=t1.inv hq
   have hri:=Rd.rem_inc hq hk
   have t2:=(jeB m).2.2.1 (lv+1) _ hi
   have hj:=t2.inv hi
   have hrj:=t2.rem
   have t3:=fun L=>Rd.st_put (t1.trans t2) (by have:=t2.pot;omega) 9 r.line 0 (q.next lv) L
   rw [jfj,if_neg hx]
   (refine S ?_;try exact True.intro)
   (have W:=hx;repeat' (first|refine jaa fun K hK=>?_|refine wkA ?_|(refine hK _ _ ?_;clear hK K)|(refine jad (fun hc=>?_) (fun hc=>?_)<;>first | contradiction | (exfalso;omega) | skip)|refine cm (juq q lv (rok hq)) ?_|refine cm (hch m q.inc (by omega) (by omega) hi (by omega)) ?_|refine cm (jdY (jaw m (lv+1) q.inc).1 _ _ _ _ [x,(jaw m (lv+1) q.inc).2] _ VLe.sl (rok hj)) ?_|refine wkB ?_|exact True.intro|(clear hK K)));all_goals (try clear W)
   ·have h2:lv=2:=by omega
    (refine jbV [.tmp 4] ?_ ?_<;>(try simp only [go_sem]))
    ·simp only [if_pos h2]
    ·simp only [if_pos h2]
   ·have h2:¬ lv=2:=by omega
    refine hKr _ _ (jar (m,(jaw m (lv+1) q.inc).1.put 9 r.line 0 (q.next lv) [x,(jaw m (lv+1) q.inc).2]) ⟨(t3 _).inv hq,?_,by (try simp only);omega,?_⟩ (by (try simp only);omega) rfl lle)
    ·have h6:∀ L,((jaw m (lv+1) q.inc).1.put 9 r.line 0 (q.next lv) L).1.rem=(jaw m (lv+1) q.inc).1.rem:=fun L=>rfl
     simp only [h6]
     omega
    ·rw [← hm3,jfj,if_neg hx,if_neg h2]
end Go.Proofs.YtdekkklnfifphaaGreatDoor
