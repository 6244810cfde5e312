/- What is seen: the program's looker. What is visible lies in slots that there are. What is seen: the program's calls. What is seen: the program's. No conditions. -/
import Derived.Test.YtdekkklnfifphaaGreatDoorViJ
import Derived.Test.YtdekkklnfifphaaGreatDoorViO
import Derived.Test.YtdekkklnfifphaaGreatDoorGdTm
import Derived.Test.YtdekkklnfifphaaGreatDoorViX
import Derived.Test.YtdekkklnfifphaaGreatDoorViS
set_option linter.all false
namespace Go.Gd
open Go
@[go_sem] theorem jtR {P:Program} {ev:Operand→AV} {H:Hp} {ty:TypeId} {K:AV→Hp→Prop} (t:TypeId) (m k x:Operand):vcD P ev H ty K (.mapUpdate t m k x)=jgm P (.mapUpdate t m k x) ty ev H K:=(jiF (by simp [jnm]) (by simp [jhY])).trans (jl2 t m k x)
@[go_sem] theorem j0U:mapTs.contains 94=true:=(rfl)
def pvF:Nat→Int→List AV
 | 0,_=>[]
 | n+1,k=>.raw (.int .i64 (k+1))::pvF n (k+1)
theorem jq6:∀ (n:Nat) (k:Int),(pvF n k).length=n
 | 0,_=>rfl
 | n+1,k=>by simp [pvF,jq6 n (k+1)]
@[go_sem] theorem jv5 (q:Nat→Bool):∀ (n:Nat) (k:Int),jaQ q (pvF n k)=true
 | 0,_=>rfl
 | n+1,k=>by
  have:=jv5 q n (k+1)
  simp only [pvF,jaQ,AV.all,this,Bool.and_self]
theorem jn9:∀ (n:Nat) (k:Int),pvF (n+1) k=pvF n k++[.raw (.int .i64 (k+n+1))]
 | 0,k=>by simp [pvF]
 | n+1,k=>by
  rw [pvF,jn9 n (k+1)]
  simp only [pvF,List.cons_append,List.cons.injEq,true_and,List.append_cancel_left_eq,AV.raw.injEq,Value.int.injEq,and_true]
  omega
end Go.Gd
namespace Go.Proofs.YtdekkklnfifphaaGreatDoor
open Go Go.Gd
set_option maxHeartbeats 4000000
set_option maxRecDepth 10000
theorem jmK (n:Int):∀ (l:List Int) (k:Int),0≤k→jqL n l (pvF l.length k)=if jee n l k < 0 then none else some (.raw (.int .i64 (jee n l k+1)))
 | [],k,_=>rfl
 | v::l,k,hk=>by
  have ih:=jmK n l (k+1) (by omega)
  rw [jf3]
  show (if n=v then some _ else jqL n l (pvF l.length (k+1)))=_
  by_cases h:v=n
  ·rw [if_pos h.symm,if_pos h,if_neg (by omega)]
  ·rw [if_neg (fun e=>h e.symm),if_neg h];exact ih
theorem jqM (n:Int):∀ (l:List Int) (k:Int),0≤k→jee n l k < 0→jl8 n l=l++[n]∧∀ (x:AV) (vs:List AV),vs.length=l.length→jlg n x l vs=vs++[x]
 | [],k,_,_=>⟨rfl,fun x vs h=>by rw [List.length_eq_zero_iff.1 h];rfl⟩
 | v::l,k,hk,h=>by
  rw [jf3] at h
  split at h
  ·omega
  ·rename_i hne
   obtain ⟨a,b⟩:=jqM n l (k+1) (by omega) h
   have hn:¬ n=v:=fun e=>hne e.symm
   refine ⟨by show (if n=v then _ else v::jl8 n l)=_;rw [if_neg hn,a];rfl,fun x vs hl=>?_⟩
   cases vs with
   | nil=>simp at hl
   | cons u vs=>
    show (if n=v then _ else u::jlg n x l vs)=_
    rw [if_neg hn,b x vs (by simpa using hl)];rfl
def lkE (heap:List (List Int)) (seen:List Int):List (Nat×Row):=[(0,.var 96 [rHp heap,.mr 1]),(1,.mp (seen.map (Value.int .i64)) (pvF seen.length 0))]
attribute [go_sem] lkE
theorem jqH (heap:List (List Int)) (seen:List Int) (n:Int) (hh:heap.length≤1000) (hl:∀ k,k < heap.length→(nth heap k).length≤1000) (hr:jtX heap) (hs:seen.length≤1000000) (v:GValue) (hv:v.ty=4) (hn:v.n=n) :
  ACalls Tryz.prog 123 [.pt 0 0 0 0,rI n] (lkE heap seen) (fun r l'=>r=rS (jdv heap seen v).1∧l'=lkE heap (jdv heap seen v).2):=by
 unfold jdv
 rw [if_pos hv,hn]
 by_cases hin:1≤n∧n≤heap.length
 rotate_left
 ·rw [if_neg hin]
  refine jaR Tryz.func123 Tryz.ntmps123 ?_
  (refine S ?_;try exact True.intro)
  (repeat' (first|refine jaa fun K hK=>?_|refine wkA ?_|(refine hK _ _ ?_;clear hK K)|(refine jad (fun hc=>?_) (fun hc=>?_)<;>first | contradiction | (exfalso;omega) | skip)|refine wkB ?_|exact True.intro|(clear hK K)))
  (refine jbV [.tmp 4] ?_ ?_<;>(try simp only [go_sem]))
 rw [if_pos hin]
 have hL1:=hl (n - 1).toNat (by omega)
 have hLr:∀ y∈nth heap (n - 1).toNat,rng y:=fun y hy=>hr _ (jam (by omega)) y hy
 have hps:=jik n seen 0 (by omega)
 have hmg:=jmK n seen 0 (by omega)
 generalize hL:nth heap (n - 1).toNat=L at *
 by_cases hpos:jee n seen 0 < 0
 ·have hS':joj seen n=seen++[n]:=by unfold joj;rw [if_pos hpos]
  obtain ⟨hmk,hmp⟩:=jqM n seen 0 (by omega) hpos
  rw [if_pos hpos] at hmg
  have hmg2:=jmK n (seen++[n]) 0 (by omega)
  have hps2:=jik n (seen++[n]) 0 (by omega)
  have hsnp:=jn5 n seen 0 n (by omega)
  rw [if_pos hpos,if_pos rfl] at hsnp
  rw [if_neg (by omega)] at hmg2
  rw [hS']
  have hsl:(seen++[n]).length=seen.length+1:=by simp
  have hmp2:jlg n (rI (seen.length+1)) seen (pvF seen.length 0)=pvF (seen++[n]).length 0:=by
   rw [hmp _ _ (jq6 _ _),hsl,jn9]
   simp
  generalize seen++[n]=S' at *
  have hjs:=jj8 (L.map jbJ) (⟨#[44]⟩:ByteArray) 21 fun x hx=>by
   obtain ⟨y,hy,rfl⟩:=List.mem_map.1 hx
   exact jbe (hLr y hy)
  have hjm:(L.map jbJ).length * (((⟨#[44]⟩:ByteArray):ByteArray).size+21)≤100000:=by
   rw [List.length_map]
   have:((⟨#[44]⟩:ByteArray):ByteArray).size=1:=rfl
   rw [this];omega
  have hit2:=jcY (jee n S' 0+1) (by unfold rng;omega)
  have his2:=jbe (n:=jee n S' 0+1) (by unfold rng;omega)
  refine jaR Tryz.func123 Tryz.ntmps123 ?_
  (refine S ?_;try exact True.intro)
  (have W:=And.intro hmk (And.intro hmp2 (hL));repeat' (first|refine jaa fun K hK=>?_|refine wkA ?_|(with_reducible refine gR 4 ?_);refine dE 4 [0,1,2,3,4,5,6,7,8,9,10,11] mixed ?_|(refine hK _ _ ?_;clear hK K)|(refine jad (fun hc=>?_) (fun hc=>?_)<;>first | contradiction | (exfalso;omega) | skip)|refine jy1 seen (.int .i64 0) (rI 0) jqN (by kernel_rfl) (by unfold jh8;rw [if_neg (by decide),hmg];rfl) ?_|refine jlz seen jqN ?_|refine wkB ?_|exact True.intro|(clear hK K)));all_goals (try clear W)
  refine jaD (FLe.nil 5 5 9 (sz:=1) rfl (by decide) (Or.inl rfl)) ?_
  (refine S ?_;try exact True.intro)
  have hKo:=hK;clear hK
  refine jag (S:=Nat) [(5,1),(7,1),(46,10)] (fun j=>j≤L.length) (fun j=>[(46,rI j),(5,.rs 5 j 1 j)]) (fun j=>⟨[0,1],[(0,.var 96 [rHp heap,.mr 1]),(1,.mp (S'.map (Value.int .i64)) (pvF S'.length 0)),(5,.vec 9 1 (((L.take j).map jbJ).map eS))]⟩) (fun j=>L.length - j) 0 (by omega) (jau rfl lle) ?_
  rintro j hj Kr hKr
  have hjl:((L.take j).map jbJ).length=j:=by simp;omega
  by_cases hlt:j < L.length
  ·have hit:=jcY (nth L j) (hLr _ (jam hlt))
   (refine S ?_;try exact True.intro)
   (have W:=hL;repeat' (first|refine jaa fun K hK=>?_|refine wkA ?_|(refine hK _ _ ?_;clear hK K)|(refine jad (fun hc=>?_) (fun hc=>?_)<;>first | contradiction | (exfalso;omega) | skip)|refine cp (hit) ?_|refine wkB ?_|exact True.intro|(clear hK K)));all_goals (try clear W)
   refine hKr _ _ (jar (j+1) (by omega) (by show L.length - (j+1) < L.length - j;omega) ?_ lle)
   show Hp.mk _ [_,_,(5,_)]=Hp.mk _ [_,_,(5,.vec _ _ (((L.take (j+1)).map jbJ).map eS))]
   rw [ja8 hlt]
   simp only [List.map_append];rfl
  ·have hje:j=L.length:=by omega
   subst hje
   rw [List.take_length] at hjl ⊢
   (refine S ?_;try exact True.intro)
   (repeat' (first|refine jaa fun K hK=>?_|refine wkA ?_|(refine hK _ _ ?_;clear hK K)|(refine jad (fun hc=>?_) (fun hc=>?_)<;>first | contradiction | (exfalso;omega) | skip)|refine jy1 S' (.int .i64 0) (rI (jee n S' 0+1)) jqN (by kernel_rfl) (by unfold jh8;rw [if_neg (by decide),hmg2];rfl) ?_|refine cp (hit2) ?_|(refine cJ (L.map jbJ) (⟨#[44]⟩:ByteArray) rfl hjl.symm (by omega) (by omega) (by simp only [go_sem]) ?_;(refine S ?_;try exact True.intro))|(refine hKo _ _ ?_)|refine wkB ?_|exact True.intro|(clear hK K)))
   unfold jmH
   rw [jiX]
   (refine jaU [.tmp 4] ?_;try simp only [go_sem])
 ·have hS':joj seen n=seen:=by unfold joj;rw [if_neg hpos]
  rw [hS']
  rw [if_neg hpos] at hmg
  have hmg2:=hmg
  have hjs:=jj8 (L.map jbJ) (⟨#[44]⟩:ByteArray) 21 fun x hx=>by
   obtain ⟨y,hy,rfl⟩:=List.mem_map.1 hx
   exact jbe (hLr y hy)
  have hjm:(L.map jbJ).length * (((⟨#[44]⟩:ByteArray):ByteArray).size+21)≤100000:=by
   rw [List.length_map]
   have:((⟨#[44]⟩:ByteArray):ByteArray).size=1:=rfl
   rw [this];omega
  have hit2:=jcY (jee n seen 0+1) (by unfold rng;omega)
  have his2:=jbe (n:=jee n seen 0+1) (by unfold rng;omega)
  refine jaR Tryz.func123 Tryz.ntmps123 ?_
  (refine S ?_;try exact True.intro)
  (have W:=hL;repeat' (first|refine jaa fun K hK=>?_|refine wkA ?_|(refine hK _ _ ?_;clear hK K)|(refine jad (fun hc=>?_) (fun hc=>?_)<;>first | contradiction | (exfalso;omega) | skip)|refine jy1 seen (.int .i64 0) (rI (jee n seen 0+1)) jqN (by kernel_rfl) (by unfold jh8;rw [if_neg (by decide),hmg];rfl) ?_|refine wkB ?_|exact True.intro|(clear hK K)));all_goals (try clear W)
  refine jaD (FLe.nil 5 5 9 (sz:=1) rfl (by decide) (Or.inl rfl)) ?_
  (refine S ?_;try exact True.intro)
  have hKo:=hK;clear hK
  refine jag (S:=Nat) [(5,1),(7,1),(46,10)] (fun j=>j≤L.length) (fun j=>[(46,rI j),(5,.rs 5 j 1 j)]) (fun j=>⟨[0,1],[(0,.var 96 [rHp heap,.mr 1]),(1,.mp (seen.map (Value.int .i64)) (pvF seen.length 0)),(5,.vec 9 1 (((L.take j).map jbJ).map eS))]⟩) (fun j=>L.length - j) 0 (by omega) (jau rfl lle) ?_
  rintro j hj Kr hKr
  have hjl:((L.take j).map jbJ).length=j:=by simp;omega
  by_cases hlt:j < L.length
  ·have hit:=jcY (nth L j) (hLr _ (jam hlt))
   (refine S ?_;try exact True.intro)
   (have W:=hL;repeat' (first|refine jaa fun K hK=>?_|refine wkA ?_|(refine hK _ _ ?_;clear hK K)|(refine jad (fun hc=>?_) (fun hc=>?_)<;>first | contradiction | (exfalso;omega) | skip)|refine cp (hit) ?_|refine wkB ?_|exact True.intro|(clear hK K)));all_goals (try clear W)
   refine hKr _ _ (jar (j+1) (by omega) (by show L.length - (j+1) < L.length - j;omega) ?_ lle)
   show Hp.mk _ [_,_,(5,_)]=Hp.mk _ [_,_,(5,.vec _ _ (((L.take (j+1)).map jbJ).map eS))]
   rw [ja8 hlt]
   simp only [List.map_append];rfl
  ·have hje:j=L.length:=by omega
   subst hje
   rw [List.take_length] at hjl ⊢
   (refine S ?_;try exact True.intro)
   (repeat' (first|refine jaa fun K hK=>?_|refine wkA ?_|(refine hK _ _ ?_;clear hK K)|(refine jad (fun hc=>?_) (fun hc=>?_)<;>first | contradiction | (exfalso;omega) | skip)|refine jy1 seen (.int .i64 0) (rI (jee n seen 0+1)) jqN (by kernel_rfl) (by unfold jh8;rw [if_neg (by decide),hmg2];rfl) ?_|refine cp (hit2) ?_|(refine cJ (L.map jbJ) (⟨#[44]⟩:ByteArray) rfl hjl.symm (by omega) (by omega) (by simp only [go_sem]) ?_;(refine S ?_;try exact True.intro))|(refine hKo _ _ ?_)|refine wkB ?_|exact True.intro|(clear hK K)))
   unfold jmH
   rw [jiX]
   (refine jaU [.tmp 4] ?_;try simp only [go_sem])
@[go_sem] theorem jsN (v:GValue):(jan v).drop 3=[]:=(rfl)
attribute [go_sem] List.append_nil
theorem jwx (heap:List (List Int)) (seen:List Int) (slots:List GValue) (x:GVar) (hx:0≤x.slot) (hxs:x.slot≤1000000) (hh:heap.length≤1000) (hl:∀ k,k < heap.length→(nth heap k).length≤1000) (hr:jtX heap) (hs:seen.length≤1000000) (hsr:jkG slots) (hsl:slots.length≤1000) :
  ACalls Tryz.prog 75 [.pt 0 0 0 0,rSl slots,.agg (jcv x)] (lkE heap seen) (fun r l'=>r=rS (jdv heap seen (jes slots x.slot x.ty)).1∧l'=lkE heap (jdv heap seen (jes slots x.slot x.ty)).2):=by
 have hz:=j0m x.ty
 have hgr:=jkq hsr x.slot x.ty
 have hgs:=jhX slots x.slot x.ty
 have hget:jes slots x.slot x.ty=if x.slot < slots.length then (if jl7 (nth slots x.slot.toNat)=true∧(nth slots x.slot.toNat).ty=x.ty then nth slots x.slot.toNat else vZ x.ty) else vZ x.ty:=by
  unfold jes
  by_cases e:x.slot < slots.length
  ·rw [if_neg (by omega),if_pos e]
  ·rw [if_pos (by omega),if_neg e]
 generalize jes slots x.slot x.ty=X at *
 have hq:=jri X hgr (by omega)
 have hli:X.ty=4→_:=fun h4=>jqH heap seen X.n hh hl hr hs X h4 rfl
 have htq:X.ty≠4→jdv heap seen X=(jef X,seen):=fun h=>by unfold jdv;rw [if_neg h]
 generalize jdv heap seen X=T at *
 have hmay:=j2v (nth slots x.slot.toNat)
 by_cases e1:x.slot < slots.length
 ·rw [if_pos e1] at hget
  by_cases e2:(nth slots x.slot.toNat).ty=x.ty
  ·by_cases e3:jl7 (nth slots x.slot.toNat)=true
   ·rw [if_pos ⟨e3,e2⟩] at hget
    rw [← hget] at e2 e3 hmay
    by_cases h4:X.ty=4
    ·have hli4:=hli h4
     refine jaR Tryz.func75 Tryz.ntmps75 ?_
     (refine S ?_;try exact True.intro)
     (have W:=And.intro e3 (And.intro e2 (hget.symm));repeat' (first|refine jaa fun K hK=>?_|refine wkA ?_|(with_reducible refine gR 2 ?_);refine dE 2 [0,1,2,3,4,5,6,7,8,9,10,11,12,13,14,15,16,17,18,19,20,21,22,23] mixed ?_|(refine hK _ _ ?_;clear hK K)|(refine jad (fun hc=>?_) (fun hc=>?_)<;>first | contradiction | (exfalso;omega) | skip)|refine bxF 5 ?_|refine alF 6 ?_|refine cp (hz) ?_|(first | refine cg (hmay) ?_ | refine cg' (hmay) ?_)|refine cm (hli4) ?_|refine wkB ?_|exact True.intro|(clear hK K)));all_goals (try clear W)
     all_goals (refine jaU [.tmp 6] ?_;try simp only [go_sem])
    ·rw [htq h4]
     refine jaR Tryz.func75 Tryz.ntmps75 ?_
     (refine S ?_;try exact True.intro)
     (have W:=And.intro e3 (And.intro e2 (hget.symm));repeat' (first|refine jaa fun K hK=>?_|refine wkA ?_|(with_reducible refine gR 2 ?_);refine dE 2 [0,1,2,3,4,5,6,7,8,9,10,11,12,13,14,15,16,17,18,19,20,21,22,23] mixed ?_|(refine hK _ _ ?_;clear hK K)|(refine jad (fun hc=>?_) (fun hc=>?_)<;>first | contradiction | (exfalso;omega) | skip)|refine bxF 5 ?_|refine alF 6 ?_|refine cp (hz) ?_|refine cp (hq) ?_|(first | refine cg (hmay) ?_ | refine cg' (hmay) ?_)|refine wkB ?_|exact True.intro|(clear hK K)));all_goals (try clear W)
     all_goals (refine jaU [.tmp 6] ?_;try simp only [go_sem])
   ·rw [if_neg (fun h=>e3 h.1)] at hget
    have e3:jl7 (nth slots x.slot.toNat)=false:=by simpa using e3
    have e4:X.ty=x.ty:=by rw [hget];rfl
    rw [← hget] at hz
    by_cases h4:X.ty=4
    ·have hli4:=hli h4
     refine jaR Tryz.func75 Tryz.ntmps75 ?_
     (refine S ?_;try exact True.intro)
     (have W:=And.intro e3 (And.intro e2 (e4));repeat' (first|refine jaa fun K hK=>?_|refine wkA ?_|(with_reducible refine gR 2 ?_);refine dE 2 [0,1,2,3,4,5,6,7,8,9,10,11,12,13,14,15,16,17,18,19,20,21,22,23] mixed ?_|(refine hK _ _ ?_;clear hK K)|(refine jad (fun hc=>?_) (fun hc=>?_)<;>first | contradiction | (exfalso;omega) | skip)|refine bxF 5 ?_|refine alF 6 ?_|refine cp (hz) ?_|(first | refine cg (hmay) ?_ | refine cg' (hmay) ?_)|refine cm (hli4) ?_|refine wkB ?_|exact True.intro|(clear hK K)));all_goals (try clear W)
     all_goals (refine jaU [.tmp 6] ?_;try simp only [go_sem])
    ·rw [htq h4]
     refine jaR Tryz.func75 Tryz.ntmps75 ?_
     (refine S ?_;try exact True.intro)
     (have W:=And.intro e3 (And.intro e2 (e4));repeat' (first|refine jaa fun K hK=>?_|refine wkA ?_|(with_reducible refine gR 2 ?_);refine dE 2 [0,1,2,3,4,5,6,7,8,9,10,11,12,13,14,15,16,17,18,19,20,21,22,23] mixed ?_|(refine hK _ _ ?_;clear hK K)|(refine jad (fun hc=>?_) (fun hc=>?_)<;>first | contradiction | (exfalso;omega) | skip)|refine bxF 5 ?_|refine alF 6 ?_|refine cp (hz) ?_|refine cp (hq) ?_|(first | refine cg (hmay) ?_ | refine cg' (hmay) ?_)|refine wkB ?_|exact True.intro|(clear hK K)));all_goals (try clear W)
     all_goals (refine jaU [.tmp 6] ?_;try simp only [go_sem])
  ·rw [if_neg (fun h=>e2 h.2)] at hget
   have e4:X.ty=x.ty:=by rw [hget];rfl
   rw [← hget] at hz
   have e2':=eq_false e2
   by_cases h4:X.ty=4
   ·have hli4:=hli h4
    refine jaR Tryz.func75 Tryz.ntmps75 ?_
    (refine S ?_;try exact True.intro)
    (have W:=And.intro e2' (e4);repeat' (first|refine jaa fun K hK=>?_|refine wkA ?_|(with_reducible refine gR 2 ?_);refine dE 2 [0,1,2,3,4,5,6,7,8,9,10,11,12,13,14,15,16,17,18,19,20,21,22,23] mixed ?_|(refine hK _ _ ?_;clear hK K)|(refine jad (fun hc=>?_) (fun hc=>?_)<;>first | contradiction | (exfalso;omega) | skip)|refine bxF 5 ?_|refine alF 6 ?_|refine cp (hz) ?_|(first | refine cg (hmay) ?_ | refine cg' (hmay) ?_)|refine cm (hli4) ?_|refine wkB ?_|exact True.intro|(clear hK K)));all_goals (try clear W)
    all_goals (refine jaU [.tmp 6] ?_;try simp only [go_sem])
   ·rw [htq h4]
    refine jaR Tryz.func75 Tryz.ntmps75 ?_
    (refine S ?_;try exact True.intro)
    (have W:=And.intro e2' (e4);repeat' (first|refine jaa fun K hK=>?_|refine wkA ?_|(with_reducible refine gR 2 ?_);refine dE 2 [0,1,2,3,4,5,6,7,8,9,10,11,12,13,14,15,16,17,18,19,20,21,22,23] mixed ?_|(refine hK _ _ ?_;clear hK K)|(refine jad (fun hc=>?_) (fun hc=>?_)<;>first | contradiction | (exfalso;omega) | skip)|refine bxF 5 ?_|refine alF 6 ?_|refine cp (hz) ?_|refine cp (hq) ?_|(first | refine cg (hmay) ?_ | refine cg' (hmay) ?_)|refine wkB ?_|exact True.intro|(clear hK K)));all_goals (try clear W)
    all_goals (refine jaU [.tmp 6] ?_;try simp only [go_sem])
 ·rw [if_neg e1] at hget
  have e4:X.ty=x.ty:=by rw [hget];rfl
  rw [← hget] at hz
  by_cases h4:X.ty=4
  ·have hli4:=hli h4
   refine jaR Tryz.func75 Tryz.ntmps75 ?_
   (refine S ?_;try exact True.intro)
   (have W:=e4;repeat' (first|refine jaa fun K hK=>?_|refine wkA ?_|(with_reducible refine gR 2 ?_);refine dE 2 [0,1,2,3,4,5,6,7,8,9,10,11,12,13,14,15,16,17,18,19,20,21,22,23] mixed ?_|(refine hK _ _ ?_;clear hK K)|(refine jad (fun hc=>?_) (fun hc=>?_)<;>first | contradiction | (exfalso;omega) | skip)|refine bxF 5 ?_|refine alF 6 ?_|refine cp (hz) ?_|(first | refine cg (hmay) ?_ | refine cg' (hmay) ?_)|refine cm (hli4) ?_|refine wkB ?_|exact True.intro|(clear hK K)));all_goals (try clear W)
   all_goals (refine jaU [.tmp 6] ?_;try simp only [go_sem])
  ·rw [htq h4]
   refine jaR Tryz.func75 Tryz.ntmps75 ?_
   (refine S ?_;try exact True.intro)
   (have W:=e4;repeat' (first|refine jaa fun K hK=>?_|refine wkA ?_|(with_reducible refine gR 2 ?_);refine dE 2 [0,1,2,3,4,5,6,7,8,9,10,11,12,13,14,15,16,17,18,19,20,21,22,23] mixed ?_|(refine hK _ _ ?_;clear hK K)|(refine jad (fun hc=>?_) (fun hc=>?_)<;>first | contradiction | (exfalso;omega) | skip)|refine bxF 5 ?_|refine alF 6 ?_|refine cp (hz) ?_|refine cp (hq) ?_|(first | refine cg (hmay) ?_ | refine cg' (hmay) ?_)|refine wkB ?_|exact True.intro|(clear hK K)));all_goals (try clear W)
   all_goals (refine jaU [.tmp 6] ?_;try simp only [go_sem])
def SlV (v:GVar):Prop:=0≤v.slot∧v.slot < 24
theorem joF {p:GProg} (h:POk p) {x:Int} (hx:x.toNat < p.tree.nodes.length) (kb:(nth p.tree.nodes x.toNat).kind=15∨(nth p.tree.nodes x.toNat).kind=16):∀ y∈(nth p.tree.nodes x.toNat).l.drop 1,jak p.tree.nodes y=18:=fun y hy=>by
 have shx:=h.tree.shape x.toNat hx
 rcases kb with kb | kb
 ·obtain ⟨a,c,_,hb,hl | ⟨d,hl,hd⟩⟩:=shx.1.if_ kb
  ·rw [hl] at hy;simp at hy;subst hy;exact hb
  ·rw [hl] at hy;simp at hy;rcases hy with rfl | rfl
   ·exact hb
   ·exact hd
 ·obtain ⟨a,c,hl,_,hb⟩:=shx.1.while_ kb
  rw [hl] at hy;simp at hy;subst hy;exact hb
theorem jhb {p:GProg} (h:SOk p) {j:Nat} (hj:j < p.tree.fns.length) (node:Int):∀ (n:Nat) (b:Int) (vars R:List GVar),PlOk p j ⟨b,0⟩→(∀ v∈vars,SlV v)→ja2 p node n b vars=some R→∀ v∈R,SlV v
 | 0,b,vars,R,_,_,e=>by cases e
 | n+1,b,vars,R,hb,hv,e=>by
  have ih:=jhb h hj node n
  have hf:=h.fns j hj
  have kid:∀ (l:List Int) (vs R:List GVar),(∀ y∈l,PlOk p j ⟨y,0⟩)→(∀ v∈vs,SlV v)→jet (ja2 p node n) vs l=some R→∀ v∈R,SlV v:=fun l=>by
   induction l with
   | nil=>intro vs R _ _ e;cases e
   | cons y l ihl=>
    intro vs R hl hvs e
    unfold jet at e
    cases e1:ja2 p node n y vs with
    | none=>rw [e1] at e;exact ihl vs R (fun z hz=>hl z (by simp [hz])) hvs e
    | some R'=>rw [e1] at e;cases e;exact ih y vs _ (hl y (by simp)) hvs e1
  have sc:∀ (l:List Int) (vs R:List GVar),(∀ x∈l,x∈jcu p b)→(∀ v∈vs,SlV v)→jeh (ja2 p node n) p node l vs=some R→∀ v∈R,SlV v:=fun l=>by
   induction l with
   | nil=>intro vs R _ _ e;cases e
   | cons x l ihl=>
    intro vs R hx hvs e
    obtain ⟨x0,x1,x2,x3⟩:=hb.kid h (by omega:(0:Int)≤j) (by omega) (hx x (by simp))
    have x1:x.toNat < b.toNat:=x1
    have x2:jeP p.tree j≤x.toNat:=by rw [Int.toNat_natCast] at x2;exact x2
    have hhi:b.toNat≤(nth p.tree.fns j).body.toNat:=by have:=hb.hi;rw [Int.toNat_natCast] at this;exact this
    have hbN:=jcM h.ok.tree hj
    have hxl:x.toNat < p.tree.nodes.length:=by have:=hbN.1;have:=hbN.2;omega
    have hlet:∀ v∈jiH p x vs,SlV v:=fun v hv'=>by
     unfold jiH at hv'
     split at hv'
     ·rename_i k10
      rcases List.mem_append.1 hv' with hv' | hv'
      ·exact hvs v hv'
      ·rw [List.mem_singleton] at hv';subst hv'
       have k10:(nth p.tree.nodes x.toNat).kind=10:=k10
       have:=hf.all x.toNat x2 (by omega) (by unfold jdI;omega)
       have hz:=hf.hi
       exact ⟨this.1,by show nth p.slots x.toNat < 24;omega⟩
     ·exact hvs v hv'
    unfold jeh at e
    split at e
    ·cases e;exact hvs
    ·cases e1:(if (jaj p x).kind=15∨(jaj p x).kind=16 then jet (ja2 p node n) (jiH p x vs) ((jaj p x).l.drop 1) else none) with
     | none=>rw [e1] at e;exact ihl _ R (fun y hy=>hx y (by simp [hy])) hlet e
     | some R'=>
      rw [e1] at e
      cases e
      split at e1
      ·rename_i kb
       refine kid _ _ _ (fun y hy=>?_) hlet e1
       have hy':y∈(nth p.tree.nodes x.toNat).l:=List.mem_of_mem_drop hy
       have hyb:=(h.ok.tree.shape x.toNat hxl).2.1 y hy'
       have hlo:=hf.chain.closed x.toNat x2 (by omega) y hy'
       exact ⟨hyb.1,by rw [Int.toNat_natCast];exact hlo,by rw [Int.toNat_natCast];show y.toNat≤_;omega,joF h.ok hxl kb y hy,Int.le_refl _,by show (0:Int)≤_;omega⟩
      ·cases e1
  exact sc (jaj p b).l vars R (fun x hx=>hx) hv e
theorem jlt:∀ (l:List GParam) (i:Int),0≤i→i+l.length≤24→∀ v∈jfm l i,SlV v
 | [],i,_,_,v,hv=>by cases hv
 | x::l,i,h0,h1,v,hv=>by
  simp only [List.length_cons] at h1
  simp only [jfm,List.mem_cons] at hv
  rcases hv with rfl | hv
  ·exact ⟨h0,by show i < 24;omega⟩
  ·exact jlt l (i+1) (by omega) (by omega) v hv
theorem jr5 {p:GProg} (h:SOk p) (hfn:∀ k,k < p.tree.nodes.length→0≤nth p.fn k∧nth p.fn k < p.tree.fns.length) {node:Int} (h1:node.toNat < p.tree.nodes.length):∀ v∈jiS p node,SlV v:=by
 obtain ⟨f0,f1⟩:=hfn _ h1
 have hft:(nth p.fn node.toNat).toNat < p.tree.fns.length:=by omega
 have hps:=(h.ok.tree.fn _ (jam hft)).2
 have hbN:=jcM h.ok.tree hft
 have hf:=h.fns _ hft
 unfold jiS
 cases e:ja2 p node p.tree.nodes.length (nth p.tree.fns (nth p.fn node.toNat).toNat).body (jfm (nth p.tree.fns (nth p.fn node.toNat).toNat).params 0) with
 | none=>intro v hv;cases hv
 | some R=>
  exact jhb h hft node _ _ _ R ⟨hbN.1,by rw [Int.toNat_natCast];exact hf.chain.le,by rw [Int.toNat_natCast];exact Nat.le_refl _,h.ok.tree.body _ (jam hft),Int.le_refl _,by show (0:Int)≤_;omega⟩ (jlt _ _ (Int.le_refl _) (by omega)) e
theorem jvM {p:GProg} (h:SOk p) (hfn:∀ k,k < p.tree.nodes.length→0≤nth p.fn k∧nth p.fn k < p.tree.fns.length) (heap:List (List Int)) (seen:List Int) (c:GSpot) (n0:0≤c.node) (n1:c.node.toNat < p.tree.nodes.length) (f0:0≤c.fn) (f1:c.fn < p.tree.fns.length)
  (hh:heap.length≤1000) (hl:∀ k,k < heap.length→(nth heap k).length≤1000) (hr:jtX heap) (hs:seen.length≤900000) (hsr:jkG c.slots) (hsl:c.slots.length≤1000) :
  ACalls Tryz.prog 47 [.pt 0 0 0 0,.agg (jah p),.agg (jb4 c)] (lkE heap seen) (fun r l'=>r=.agg (jbC ⟨(nth p.tree.fns c.fn.toNat).name,(jaj p c.node).line,(jcb heap c.slots (jiS p c.node) seen).1⟩)∧l'=lkE heap (jcb heap c.slots (jiS p c.node) seen).2):=by
 have hvis:=j0j h.ok hfn c.node n0 n1
 have hvs:=jr5 h hfn n1
 have hvl:=jkE h.ok hfn n1
 have hfl:c.fn.toNat < p.tree.fns.length:=by omega
 generalize jiS p c.node=V at *
 suffices key:∀ W:List GShown×List Int,W=jcb heap c.slots V seen→ACalls Tryz.prog 47 [.pt 0 0 0 0,.agg (jah p),.agg (jb4 c)] (lkE heap seen) (fun r l'=>r=.agg (jbC ⟨(nth p.tree.fns c.fn.toNat).name,(jaj p c.node).line,W.1⟩)∧l'=lkE heap W.2) from key _ rfl
 intro W hW
 have hnx:jaj p c.node=nth p.tree.nodes c.node.toNat:=rfl
 rw [hnx]
 refine jaR Tryz.func47 Tryz.ntmps47 ?_
 (refine S ?_;try exact True.intro)
 (repeat' (first|refine jaa fun K hK=>?_|refine wkA ?_|(with_reducible refine gR 1 ?_);refine dE 1 [0,1,2,3,4,5,6,7,8,9,10,11,12,13,14,15,16,17,18] mixed ?_|(refine hK _ _ ?_;clear hK K)|(refine jad (fun hc=>?_) (fun hc=>?_)<;>first | contradiction | (exfalso;omega) | skip)|refine bxF 5 ?_|refine bxF 6 ?_|refine alF 7 ?_|refine alF 8 ?_|refine cp (hvis) ?_|refine wkB ?_|exact True.intro|(clear hK K)))
 refine jaD (FLe.nilC 9 8 2 58 2 rfl (by decide) rfl rfl) ?_
 (refine S ?_;try exact True.intro)
 have hKo:=hK;clear hK
 refine jag (S:=Nat) [(9,1),(32,18)] (fun k=>k≤V.length) (fun k=>[(32,rI k)]) (fun k=>⟨[0,1],lkE heap (jcb heap c.slots (V.take k) seen).2++[(5,.var 29 (jah p)),(6,.var 47 (jb4 c)),(7,.var 56 [rS ⟨#[]⟩,rI 0,.raw (.slice none 0 0)]),(8,.var 56 [rS (nth p.tree.fns c.fn.toNat).name,rI (nth p.tree.nodes c.node.toNat).line,.rs 9 k 2 k]),(9,.vec 58 2 ((jcb heap c.slots (V.take k) seen).1.map jbb))]⟩) (fun k=>V.length - k) 0 (by omega) (jau rfl lle) ?_
 rintro k hk Kr hKr
 obtain ⟨hkl,hks⟩:=jgi heap c.slots k (V.take k) seen (by simp;omega)
 by_cases hlt:k < V.length
 ·have hsn:=jgN heap c.slots (V.take k) (nth V k) seen
  rw [← ja8 hlt] at hsn
  obtain ⟨x0,x1⟩:=hvs _ (jam hlt)
  generalize jcb heap c.slots (V.take k) seen=A at *
  generalize hxd:nth V k=x at *
  unfold jgM at hsn
  have htx:=jwx heap A.2 c.slots x x0 (by omega) hh hl hr (by omega) hsr hsl
  generalize jdv heap A.2 (jes c.slots x.slot x.ty)=T at *
  (refine S ?_;try exact True.intro)
  (have W:=And.intro hxd (hkl);repeat' (first|refine jaa fun K hK=>?_|refine wkA ?_|(with_reducible refine gR 5 ?_);refine dC 5 ([1],[],[44,1000000]) [] [0,1,2,3,4,5,6,7,8,9,10,11,12,13] mixed ?_|(refine hK _ _ ?_;clear hK K)|(refine jad (fun hc=>?_) (fun hc=>?_)<;>first | contradiction | (exfalso;omega) | skip)|refine alF 10 ?_|(refine cNA htx ?_)|refine wkB ?_|exact True.intro|(clear hK K)));all_goals (try clear W)
  refine hKr _ _ (jaM [10] (k+1) (by omega) (by show V.length - (k+1) < V.length - k;omega) rfl Sd ?_ vtl)
  show Hp.mk _ [_,(1,_),_,_,_,_,(9,_)]=Hp.mk _ (lkE heap (jcb heap c.slots (V.take (k+1)) seen).2++[_,_,_,_,(9,.vec _ _ (List.map jbb (jcb heap c.slots (V.take (k+1)) seen).1))])
  rw [hsn]
  simp only [List.map_append]
  rfl
 ·have hke:k=V.length:=by omega
  subst hke
  rw [List.take_length] at hkl ⊢
  rw [← hW] at hkl ⊢
  (refine S ?_;try exact True.intro)
  (have W:=hkl;repeat' (first|refine jaa fun K hK=>?_|refine wkA ?_|(refine hK _ _ ?_;clear hK K)|(refine jad (fun hc=>?_) (fun hc=>?_)<;>first | contradiction | (exfalso;omega) | skip)|(refine hKo _ _ ?_)|refine wkB ?_|exact True.intro|(clear hK K)));all_goals (try clear W)
  refine jfG [.cell 6 56] ?_
  refine VToL.agg (ds:=jbC ⟨(nth p.tree.fns c.fn.toNat).name,(nth p.tree.nodes c.node.toNat).line,W.1⟩) ⟨.same _ rfl,.same _ rfl,VTo.row W.1 rfl rfl hkl.symm,trivial⟩
theorem jsI (l:List ByteArray) (hl:l.length≤1000000):PCall Tryz.prog 46 [jaI eS 1 l] (jaI eS 1 l):=by
 refine jbO Tryz.func46 Tryz.ntmps46 ?_
 (repeat' (first|refine jaa fun K hK=>?_|refine wkA ?_|(refine hK _ _ ?_;clear hK K)|(refine jad (fun hc=>?_) (fun hc=>?_)<;>first | contradiction | (exfalso;omega) | skip)|(with_reducible refine fun (b:Bool) hb=>?_)|refine wkB ?_|exact True.intro|(clear hK K)))
 ·have hb':l=[]:=by simpa using hb hc
  subst hb'
  refine jfG [.tmp 2] ?_
  exact VTo.nil _ _
 ·refine jfG [.tmp 2] ?_
  exact VTo.row l rfl rfl (by simp)
theorem jzu {p:GProg} (h:SOk p) (hfn:∀ k,k < p.tree.nodes.length→0≤nth p.fn k∧nth p.fn k < p.tree.fns.length) {s:GShot} (ho:ShotOk p s) (hol:s.out_.length≤1000):PCall Tryz.prog 19 [.agg (jah p),.agg (jcc s)] (.agg (ja4 (ofV p s))):=by
 have hcl:=ho.calls
 have hhl:=ho.hl
 have hcs:=jsI s.out_ (by omega)
 refine jbO Tryz.func19 Tryz.ntmps19 ?_
 (repeat' (first|refine jaa fun K hK=>?_|refine wkA ?_|(with_reducible refine gR 2 ?_);refine dC 2 ([],[],[16]) [10] [0,1,3,4,5,6,7,8,2,9,10,11] mixed ?_|(refine hK _ _ ?_;clear hK K)|(refine jad (fun hc=>?_) (fun hc=>?_)<;>first | contradiction | (exfalso;omega) | skip)|refine bxF 5 ?_|refine bxF 6 ?_|refine bxF 0 ?_|refine mkM 1 ?_|refine alF 7 ?_|refine alF 8 ?_|(refine cN hcs ?_)|refine wkB ?_|exact True.intro|(clear hK K)))
 refine jaD (FLe.nilC 9 8 0 56 3 rfl (by decide) rfl rfl) ?_
 (refine S ?_;try exact True.intro)
 have hKo:=hK;clear hK
 refine jag (S:=Nat) [(8,1),(27,14)] (fun i=>i≤s.calls.length∧(jbW p s.heap (s.calls.take i)).2.length≤100000 * i) (fun i=>[(27,rI i)]) (fun i=>⟨[],[(5,.var 29 (jah p)),(6,.var 38 (jcc s)),(7,.var 52 [.raw (.slice none 0 0),.raw (.slice none 0 0),rI 0,rI 0,rI 0]),(1,.mp ((jbW p s.heap (s.calls.take i)).2.map (Value.int .i64)) (pvF (jbW p s.heap (s.calls.take i)).2.length 0)),(0,.var 96 [rHp s.heap,.mr 1]),(8,.var 52 [.rs 9 i 3 i,jaI eS 1 s.out_,rI s.in_,rI s.status,rI s.trap]),(9,.vec 56 3 ((jbW p s.heap (s.calls.take i)).1.map jbC))]⟩) (fun i=>s.calls.length - i) 0 ⟨by omega,Nat.zero_le _⟩ (jau rfl lle) ?_
 rintro i ⟨hi1,hi2⟩ Kr hKr
 by_cases hlt:i < s.calls.length
 rotate_left
 ·have hie:i=s.calls.length:=by omega
  subst hie
  rw [List.take_length] at *
  have hcl1:(jbW p s.heap s.calls).1.length=s.calls.length:=jdQ p s.heap _ _ rfl
  (refine S ?_;try exact True.intro)
  (repeat' (first|refine jaa fun K hK=>?_|refine wkA ?_|(refine hK _ _ ?_;clear hK K)|(refine jad (fun hc=>?_) (fun hc=>?_)<;>first | contradiction | (exfalso;omega) | skip)|(refine hKo _ _ ?_)|refine wkB ?_|exact True.intro|(clear hK K)))
  refine jfG [.cell 4 52] ?_
  refine VToL.agg (ds:=ja4 (ofV p s)) ⟨VTo.row (jbW p s.heap s.calls).1 rfl rfl hcl1.symm,.same _ rfl,.same _ rfl,.same _ rfl,.same _ rfl,trivial⟩
 obtain ⟨n0,n1⟩:=ho.node i hlt
 obtain ⟨f0,f1⟩:=ho.fn i hlt
 obtain ⟨hsr,hsl⟩:=ho.sl i hlt
 have hvl:=jkE h.ok hfn n1
 have hcsv:=jfu p s.heap (s.calls.take i) (nth s.calls i)
 rw [← ja8 hlt] at hcsv
 have hci:(jbW p s.heap (s.calls.take i)).1.length=i:=jdQ p s.heap i _ (by simp;omega)
 generalize jbW p s.heap (s.calls.take i)=C at *
 generalize hcd:nth s.calls i=c at *
 have hlc:=jvM h hfn s.heap C.2 c n0 n1 f0 f1 hhl ho.hls ho.hp (by omega) hsr hsl
 have hvv:=(jgi s.heap c.slots _ (jiS p c.node) C.2 rfl).2
 unfold jeY at hcsv
 generalize jcb s.heap c.slots (jiS p c.node) C.2=W at *
 (refine S ?_;try exact True.intro)
 (have W:=And.intro hcd (hci);repeat' (first|refine jaa fun K hK=>?_|refine wkA ?_|(with_reducible refine gR 6 ?_);refine dC 6 ([1],[],[36,1000000]) [] [0,1,2,3,4,5,6,7,8,9] mixed ?_|(refine hK _ _ ?_;clear hK K)|(refine jad (fun hc=>?_) (fun hc=>?_)<;>first | contradiction | (exfalso;omega) | skip)|refine alF 10 ?_|(refine cNA hlc ?_)|refine wkB ?_|exact True.intro|(clear hK K)));all_goals (try clear W)
 refine hKr _ _ (jaM [10] (i+1) ⟨by omega,by rw [hcsv];show W.2.length≤_;omega⟩ (by show s.calls.length - (i+1) < s.calls.length - i;omega) rfl Sd ?_ ?_)
 ·rw [hcsv]
  simp only [List.map_append]
  rfl
 ·exact vtl
theorem jrD {p:GProg} (h:SOk p) (hfn:∀ k,k < p.tree.nodes.length→0≤nth p.fn k∧nth p.fn k < p.tree.fns.length) {s:GState} (ha:AtAll p s) (hf:Fits s) (ho:ShotOk p (jcJ p s)):PCall Tryz.prog 23 [.agg (jah p),.agg (jal s)] (.agg (ja4 (ofV p (jcJ p s)))):=by
 have hfl:=hf.frs
 have hof:=jzu h hfn ho (by have:=hf.out;show s.out_.length≤1000;omega)
 refine jbO Tryz.func23 Tryz.ntmps23 ?_
 (repeat' (first|refine jaa fun K hK=>?_|refine wkA ?_|(refine hK _ _ ?_;clear hK K)|(refine jad (fun hc=>?_) (fun hc=>?_)<;>first | contradiction | (exfalso;omega) | skip)|refine bx 0 ?_|refine bx 1 ?_|refine al 2 ?_|refine al 3 ?_|refine wkB ?_|exact True.intro|(clear hK K)))
 refine jaD (FLe.nilC 4 3 0 47 3 rfl (by decide) rfl rfl) ?_
 (refine S ?_;try exact True.intro)
 have hKo:=hK;clear hK
 refine jag (S:=Nat) [(7,2),(25,35)] (fun k=>k≤s.frames.length) (fun k=>[(25,rI k)]) (fun k=>⟨[],[(0,.var 29 (jah p)),(1,.var 42 (jal s)),(2,.var 52 [.raw (.slice none 0 0),.raw (.slice none 0 0),rI 0,rI 0,rI 0]),(3,.var 38 [.rs 4 k 3 k,jaI eLI 1 s.heap,rI s.in_,jaI eS 1 s.out_,rI s.status,rI s.trap,rI s.time]),(4,.vec 47 3 (((s.frames.take k).map (jiQ p)).map jb4))]⟩) (fun k=>s.frames.length - k) 0 (by omega) (jau rfl lle) ?_
 rintro k hk Kr hKr
 have hkl:((s.frames.take k).map (jiQ p)).length=k:=by simp;omega
 by_cases hlt:k < s.frames.length
 ·obtain ⟨a1,a2⟩:=ha.pa k hlt
  obtain ⟨b1,b2⟩:=ha.b k hlt
  obtain ⟨c1,c2⟩:=ha.at_ k hlt
  unfold GFrame.pl at b1 b2 c1 c2
  unfold jaj at c2
  generalize hx:nth s.frames k=x at *
  (refine S ?_;try exact True.intro)
  (have W:=And.intro hkl (hx);repeat' (first|refine jaa fun K hK=>?_|refine wkA ?_|(with_reducible refine gR 6 ?_);refine dE 6 [0,1,2,3,4,5,6,7,8,9,10,11,12,13,14,15,16,17,18,19,20,21,22] mixed ?_|(refine hK _ _ ?_;clear hK K)|(refine jad (fun hc=>?_) (fun hc=>?_)<;>first | contradiction | (exfalso;omega) | skip)|refine al 5 ?_|refine al 6 ?_|refine wkB ?_|exact True.intro|(clear hK K)));all_goals (try clear W)
  refine hKr _ _ (jaM [5,6] (k+1) (by omega) (by show s.frames.length - (k+1) < s.frames.length - k;omega) rfl Sd ?_ vtl)
  show Hp.mk _ [_,_,_,_,(4,_)]=Hp.mk _ [_,_,_,_,(4,.vec _ _ (((s.frames.take (k+1)).map (jiQ p)).map jb4))]
  rw [ja8 hlt,List.map_append,List.map_append,hx]
  rfl
 ·have hke:k=s.frames.length:=by omega
  subst hke
  rw [List.take_length] at hkl ⊢
  (refine S ?_;try exact True.intro)
  (have W:=hkl;repeat' (first|refine jkM (id:=8) [4] 3 [jaI jb4 3 (s.frames.map (jiQ p)),jaI eLI 1 s.heap,rI s.in_,jaI eS 1 s.out_,rI s.status,rI s.trap,rI s.time] [] [] ?_|refine jaa fun K hK=>?_|refine wkA ?_|(refine hK _ _ ?_;clear hK K)|(refine jad (fun hc=>?_) (fun hc=>?_)<;>first | contradiction | (exfalso;omega) | skip)|refine cp (hof) ?_|(refine hKo _ _ ?_)|refine wkB ?_|exact True.intro|(clear hK K)));all_goals (try clear W)
  (refine jaU [.cell 4 52] ?_;try simp only [go_sem])
end Go.Proofs.YtdekkklnfifphaaGreatDoor
