/- What the law of this claim needs beside the others' texts (only for the hand-ins of ViewLines, ViewNames, ViewLists, where the shared texts leave thes. The law ViewNames: the first byte of what is shown. The law ViewNames: what it says is so. No conditions. -/
import Derived.Test.YtdekkklnfifphaaGreatDoorLvD
set_option linter.all false
namespace Go.Gd
open Go
@[go_sem] theorem toNat_add0 (a b : Nat) : ((a : Int) + (b : Int)).toNat = a + b := by omega
@[go_sem] theorem map_set_enc {α : Type} (enc : α → List AV) (l : List α) (k : Nat) (x : α) : (l.map enc).set k (enc x) = (l.set k x).map enc := List.map_set.symm
@[go_sem] theorem eGShot_take (x : GShot) : (jcc x).take 7 = jcc x := (rfl)
@[go_sem] theorem eGValue_u1 (x : GValue) (v : Int) : List.take 1 (jan x) ++ [.raw (.int .i64 v)] ++ List.drop 2 (jan x) = jan { x with n := v } := (rfl)
@[go_sem] theorem ldOK_convert {A : AS} {ev : Operand → AV} (s d : TypeId) (x : Operand) : jh1 A ev (.convert s d x) = true := (rfl)
@[go_sem] theorem vcD_convert {P : Program} {ev : Operand → AV} {H : Hp} {ty : TypeId} {K : AV → Hp → Prop} (s d : TypeId) (x : Operand) : vcD P ev H ty K (.convert s d x) = vc P ev H ty K (.convert s d x) := (rfl)
@[go_sem] theorem vcD_rem {P : Program} {ev : Operand → AV} {H : Hp} {ty : TypeId} {K : AV → Hp → Prop} (t : TypeId) (x y : Operand) (t' : TypeId) : vcD P ev H ty K (.binOp .rem t x y t') = vc P ev H ty K (.binOp .rem t x y t') := (rfl)
@[go_sem] theorem vc_max {P : Program} {ev : Operand → AV} {H : Hp} {ty : TypeId} {K : AV → Hp → Prop} (xs : Array Operand) (ts : Array TypeId) : vc P ev H ty K (.call ⟨.builtin .max, xs, ts⟩) = ((jb9 P H .max ts.toList (xs.toList.map ev)).1 ∧ K (jb9 P H .max ts.toList (xs.toList.map ev)).2 H) := by simp [vc, jaq, vq]
end Go.Gd
namespace Go.Proofs.YtdekkklnfifphaaGreatDoor
open Go Go.Gd
@[go_sem] theorem cb_20 : jaf Tryz.prog 20 = true := by kernel_rfl
theorem vis_ty {p : GProg} (h : POk p) (node : Int) : ∀ v ∈ jiS p node, 1 ≤ v.ty ∧ v.ty ≤ 4 := fun v hv => by
  unfold jiS at hv
  cases e : ja2 p node p.tree.nodes.length (nth p.tree.fns (nth p.fn node.toNat).toNat).body (jfm (nth p.tree.fns (nth p.fn node.toNat).toNat).params 0) with
  | none => rw [e] at hv; cases hv
  | some R =>
    rw [e] at hv
    refine joA (P := fun v => 1 ≤ v.ty ∧ v.ty ≤ 4) (fun x k10 => ?_) _ _ _ R (fun w hw => ?_) e v hv
    · have hl : x.toNat < p.tree.nodes.length := by
        rcases jjc p.tree.nodes x.toNat with e | e
        · exact Classical.byContradiction fun hn => by
            have : nth p.tree.nodes x.toNat = default := by unfold nth; rw [List.getD_eq_getElem?_getD, List.getElem?_eq_none (by omega)]; rfl
            unfold jaj at k10; rw [this] at k10; exact absurd k10 (by decide)
        · unfold jaj at k10; rw [e] at k10; exact absurd k10 (by decide)
      exact (h.ty x.toNat (Nat.zero_le _) hl).let_ k10
    · obtain ⟨x, hx, _, e2⟩ := jq2 _ _ _ hw
      rw [e2]
      rcases jjc p.tree.fns (nth p.fn node.toNat).toNat with e | e
      · exact ((h.tree.fn _ e).1.ps x hx)
      · rw [e] at hx; cases hx
set_option maxHeartbeats 4000000
set_option maxRecDepth 10000
theorem byte_app (a b:ByteArray) (h:0 < a.size):jaG (a++b) 0=jaG a 0:=by
 obtain ⟨⟨a⟩⟩:=a
 obtain ⟨⟨b⟩⟩:=b
 cases a with
 | nil=>exact absurd h (by decide)
 | cons x l=>rfl
structure Begins (t:ByteArray) (T:Int):Prop where
 ne:t≠⟨#[]⟩
 l:T=4↔jaG t 0=35
 q:T=3↔jaG t 0=34
 b:T=2→t=(⟨#[116,114,117,101]⟩:ByteArray)∨t=(⟨#[102,97,108,115,101]⟩:ByteArray)
theorem comma_byte:∀ (l:List Int) (b:Bool) (t:ByteArray),0 < t.size→jaG (jch l b t) 0=jaG t 0∧0 < (jch l b t).size
 | [],b,t,h=>⟨rfl,h⟩
 | x::l,b,t,h=>by
  rw [jdc]
  have h1:jaG (if b=true then t++(⟨#[44]⟩:ByteArray) else t) 0=jaG t 0∧0 < (if b=true then t++(⟨#[44]⟩:ByteArray) else t).size:=by
   split
   ·exact ⟨byte_app _ _ h,by rw [ByteArray.size_append];omega⟩
   ·exact ⟨rfl,h⟩
  obtain ⟨g1,g2⟩:=comma_byte l true ((if b=true then t++(⟨#[44]⟩:ByteArray) else t)++jbJ x) (by rw [ByteArray.size_append];omega)
  exact ⟨by rw [g1,byte_app _ _ h1.2,h1.1],g2⟩
theorem ne_of {t:ByteArray} (h:0 < t.size):t≠⟨#[]⟩:=fun e=>by rw [e] at h;exact absurd h (by decide)
theorem list_begins (seen:List Int) (n:Int) (l:List Int):Begins (jmH seen n l) 4:=by
 have h0:jaG ((⟨#[35]⟩:ByteArray)++jbJ (jee n seen 0+1)++(⟨#[91]⟩:ByteArray)) 0=35∧0 < ((⟨#[35]⟩:ByteArray)++jbJ (jee n seen 0+1)++(⟨#[91]⟩:ByteArray)).size:=by
  rw [ByteArray.append_assoc]
  exact ⟨byte_app _ _ (by decide),by rw [ByteArray.size_append];have:((⟨#[35]⟩:ByteArray):ByteArray).size=1:=rfl;omega⟩
 obtain ⟨g1,g2⟩:=comma_byte l false _ h0.2
 have hb:jaG (jmH seen n l) 0=35:=by
  unfold jmH
  rw [byte_app _ _ g2,g1,h0.1]
 refine ⟨ne_of (by unfold jmH;rw [ByteArray.size_append];omega),⟨fun _=>hb,fun _=>rfl⟩,⟨fun h=>absurd h (by decide),fun h=>absurd (hb.symm.trans h) (by decide)⟩,fun h=>absurd h (by decide)⟩
theorem dec_head:∀ (n u:Nat),u < n→∃ d l,Lib.decDigits u=UInt8.ofNat (48+d)::l∧d < 10
 | 0,u,h=>by omega
 | n+1,u,h=>by
  rw [Lib.decDigits]
  split
  ·rename_i h1;exact ⟨u,[],rfl,h1⟩
  ·obtain ⟨d,l,e,hd⟩:=dec_head n (u / 10) (by omega)
   exact ⟨d,l++_,by rw [e];rfl,hd⟩
theorem itoa_begins (n:Int):∃ x l,jbJ n=⟨⟨x::l⟩⟩∧(x=45∨∃ d,d < 10∧x=UInt8.ofNat (48+d)):=by
 unfold jbJ Lib.itoa
 split
 ·exact ⟨45,_,rfl,.inl rfl⟩
 ·obtain ⟨d,l,e,hd⟩:=dec_head _ n.toNat (Nat.lt_succ_self _)
  rw [e]
  exact ⟨_,l,rfl,.inr ⟨d,hd,rfl⟩⟩
theorem num_begins (n:Int):Begins (jbJ n) 1:=by
 obtain ⟨x,l,e,hx⟩:=itoa_begins n
 have hb:jaG (jbJ n) 0=(x.toNat:Int):=by rw [e];rfl
 have hx:x.toNat≠34∧x.toNat≠35:=by
  rcases hx with rfl | ⟨d,hd,rfl⟩
  ·decide
  ·have:∀ d:Nat,d < 10→(UInt8.ofNat (48+d)).toNat≠34∧(UInt8.ofNat (48+d)).toNat≠35:=by decide
   exact this d hd
 refine ⟨ne_of (by rw [e];exact Nat.succ_pos _),⟨fun h=>absurd h (by decide),fun h=>?_⟩,⟨fun h=>absurd h (by decide),fun h=>?_⟩,fun h=>absurd h (by decide)⟩
 ·rw [hb] at h;omega
 ·rw [hb] at h;omega
theorem get_ty_ (slots:List GValue) (k t:Int):(jes slots k t).ty=t:=by
 unfold jes
 split
 ·rfl
 split
 ·rename_i h;exact h.2
 ·rfl
theorem text_begins (heap:List (List Int)) (seen:List Int) (slots:List GValue) (k:Int) {t:Int} (ht:1≤t∧t≤4):Begins (jdv heap seen (jes slots k t)).1 t:=by
 have hv:=get_ty_ slots k t
 generalize jes slots k t=v at *
 have h4:t=1∨t=2∨t=3∨t=4:=by omega
 rcases h4 with rfl | rfl | rfl | rfl
 ·have e:(jdv heap seen v).1=jbJ v.n:=by unfold jdv;rw [if_neg (by omega)];show jef v=_;unfold jef jgl;rw [if_neg (by omega),if_pos hv]
  rw [e];exact num_begins _
 ·have e:(jdv heap seen v).1=if v.n=1 then (⟨#[116,114,117,101]⟩:ByteArray) else (⟨#[102,97,108,115,101]⟩:ByteArray):=by unfold jdv;rw [if_neg (by omega)];show jef v=_;unfold jef jgl;rw [if_neg (by omega),if_neg (by omega),if_pos hv]
  rw [e]
  split
  ·exact ⟨by decide,by decide,by decide,fun _=>.inl rfl⟩
  ·exact ⟨by decide,by decide,by decide,fun _=>.inr rfl⟩
 ·have e:(jdv heap seen v).1=(⟨#[34]⟩:ByteArray)++v.s++(⟨#[34]⟩:ByteArray):=by unfold jdv;rw [if_neg (by omega)];show jef v=_;unfold jef;rw [if_pos hv]
  rw [e,ByteArray.append_assoc]
  have hb:jaG ((⟨#[34]⟩:ByteArray)++(v.s++(⟨#[34]⟩:ByteArray))) 0=34:=byte_app _ _ (by decide)
  refine ⟨ne_of (by rw [ByteArray.size_append];have:(⟨#[34]⟩:ByteArray).size=1:=rfl;omega),⟨fun h=>absurd h (by decide),fun h=>absurd (hb.symm.trans h) (by decide)⟩,⟨fun _=>hb,fun _=>rfl⟩,fun h=>absurd h (by decide)⟩
 ·unfold jdv
  rw [if_pos hv]
  split
  ·exact list_begins _ _ _
  ·show Begins ((⟨#[35,48,91,93]⟩:ByteArray)) 4
   exact ⟨by decide,by decide,by decide,fun h=>absurd h (by decide)⟩
theorem vars_as (heap:List (List Int)) (slots:List GValue):∀ (l:List GVar) (a:List GShown×List Int),∃ B,(l.foldl (jgM heap slots) a).1=a.1++B∧B.length=l.length∧∀ i,i < l.length→∃ seen,nth B i=⟨(nth l i).name,(jdv heap seen (jes slots (nth l i).slot (nth l i).ty)).1⟩
 | [],a=>⟨[],by simp,rfl,fun i h=>by simp at h⟩
 | x::l,a=>by
  obtain ⟨B,h1,h2,h3⟩:=vars_as heap slots l (jgM heap slots a x)
  refine ⟨⟨x.name,(jdv heap a.2 (jes slots x.slot x.ty)).1⟩::B,?_,by simp [h2],fun i hi=>?_⟩
  ·rw [List.foldl_cons,h1];unfold jgM;simp
  ·cases i with
   | zero=>exact ⟨a.2,rfl⟩
   | succ i=>exact h3 i (by simpa using hi)
theorem calls_as (p:GProg) (heap:List (List Int)):∀ (l:List GSpot) (a:List GSeen×List Int),∃ B,(l.foldl (jeY p heap) a).1=a.1++B∧B.length=l.length∧∀ i,i < l.length→∃ seen,nth B i=⟨(nth p.tree.fns (nth l i).fn.toNat).name,(jaj p (nth l i).node).line,(jcb heap (nth l i).slots (jiS p (nth l i).node) seen).1⟩
 | [],a=>⟨[],by simp,rfl,fun i h=>by simp at h⟩
 | x::l,a=>by
  obtain ⟨B,h1,h2,h3⟩:=calls_as p heap l (jeY p heap a x)
  refine ⟨⟨(nth p.tree.fns x.fn.toNat).name,(jaj p x.node).line,(jcb heap x.slots (jiS p x.node) a.2).1⟩::B,?_,by simp [h2],fun i hi=>?_⟩
  ·rw [List.foldl_cons,h1];unfold jeY;simp
  ·cases i with
   | zero=>exact ⟨a.2,rfl⟩
   | succ i=>exact h3 i (by simpa using hi)
structure SeenAs (p:GProg) (x:GSpot) (c:GSeen):Prop where
 name:c.name=(nth p.tree.fns x.fn.toNat).name
 line:c.line=(nth p.tree.nodes x.node.toNat).line
 len:c.vars.length=(jiS p x.node).length
 var:∀ k,k < (jiS p x.node).length→(nth c.vars k).name=(nth (jiS p x.node) k).name∧Begins (nth c.vars k).text (nth (jiS p x.node) k).ty
theorem seen_as {p:GProg} (h:POk p) (z:GShot) {i:Nat} (hi:i < z.calls.length):SeenAs p (nth z.calls i) (nth (ofV p z).calls i):=by
 obtain ⟨B,h1,h2,h3⟩:=calls_as p z.heap z.calls ([],[])
 have e:(ofV p z).calls=B:=h1
 obtain ⟨seen,e2⟩:=h3 i hi
 rw [e,e2]
 obtain ⟨C,g1,g2,g3⟩:=vars_as z.heap (nth z.calls i).slots (jiS p (nth z.calls i).node) ([],seen)
 have e3:(jcb z.heap (nth z.calls i).slots (jiS p (nth z.calls i).node) seen).1=C:=g1
 rw [e3]
 refine ⟨rfl,rfl,g2,fun k hk=>?_⟩
 obtain ⟨seen2,e4⟩:=g3 k hk
 show (nth C k).name=_∧Begins (nth C k).text _
 rw [e4]
 exact ⟨rfl,text_begins _ _ _ _ (vis_ty h _ _ (jam hk))⟩
theorem viewNames_c (s:ByteArray) (inp:List Int) (a:Int) (hi:∀ x∈inp,rng x) (ha:0≤a∧a < 256):PCall Tryz.prog 4 [rS s,jaI eI 1 inp,.raw (.int .u8 a)] (rB true):=by
 have hs:=joq (jg6 s) (jph s)
 have hok:=@jzK (jg6 s)
 obtain ⟨n,hn,ea⟩:=jtZ ha
 generalize jaP (jg6 s)=R at hs hok
 obtain ⟨p,x,e⟩:=R
 simp only at hs hok
 by_cases he:e=0
 ·have hp:=hok he
  have hin:=js0 inp
  have hr1:=jrr hp.s (jsZ inp) (jj2 _) (jj3 hi) n (by omega)
  have o1:=jwf hp.s hp.fn hp.nm (jj2 inp) (jj3 hi) n
  have hso:=juz hp.s (jga hp.s (jj2 inp) (jj3 hi) n).inv (jga hp.s (jj2 inp) (jj3 hi) n).rng (joi hp.s (jj2 inp) (jj3 hi) n)
  generalize joh p (jsZ inp) n=s1 at *
  have h1:=o1.shot
  have h2:=o1.of_
  have v1:=o1.view
  clear o1
  generalize jcJ p s1=z at *
  have hsa:=fun i hi=>@seen_as p hp.s.ok z i hi
  have hvc:(ofV p z).calls.length=z.calls.length:=jp2 z
  have hvo:(ofV p z).out_=z.out_:=rfl
  have hvi:(ofV p z).in_=z.in_:=rfl
  have hvs:(ofV p z).status=z.status:=rfl
  have hvt:(ofV p z).trap=z.trap:=rfl
  generalize ofV p z=w at *
  refine jbO Tryz.func4 Tryz.ntmps4 ?_
  (have W:=And.intro he (And.intro ea (And.intro hvc (And.intro hvo (And.intro hvi (And.intro hvs (hvt))))));repeat' (first|refine jaa fun K hK=>?_|refine wkA ?_|(with_reducible refine gR 5 ?_);refine dC 5 ([],[],[32,36,37]) [9] [0,1,2,4,5,6,3,7,8,9,10] mixed ?_|(refine hK _ _ ?_;clear hK K)|(refine jad (fun hc=>?_) (fun hc=>?_)<;>first | contradiction | (exfalso;omega) | skip)|refine cp (jrv) ?_|refine cp (jru _) ?_|refine cp (hs) ?_|(refine cN hin ?_)|(refine cN hr1 ?_)|(refine cN h1 ?_)|refine cp (h2) ?_|refine wkB ?_|exact True.intro|(clear hK K)));all_goals (try clear W)
  (repeat clear hc)
  have hKo:=hK;clear hK
  refine jag (S:=Nat) [(6,1),(13,5),(78,128)] (fun i=>i≤z.calls.length) (fun i=>[(13,rI i)]) (fun i=>⟨[],[(0,.var 29 (jah p)),(1,.var 38 (jcc z)),(2,.var 52 (ja4 w))]⟩) (fun i=>z.calls.length - i) 0 (by omega) (jau rfl lle) ?_
  rintro i hi2 Kr hKr
  have hcl:=hso.calls
  by_cases hlt:i < z.calls.length
  ·obtain ⟨q1,q2,q3,q4⟩:=hsa i hlt
   have hfn:=hso.fn i hlt
   have hnd:=hso.node i hlt
   have hvis:=j0h hp.s.ok hp.fn (nth z.calls i).node hnd.1 hnd.2
   have hvl:=jkE hp.s.ok hp.fn hnd.2
   generalize hz:nth z.calls i=sp at *
   generalize hw:nth w.calls i=c at *
   generalize jiS p sp.node=V at *
   (refine S ?_;try exact True.intro)
   (have W:=And.intro hvc (And.intro hz (And.intro hw (And.intro q1 (And.intro q2 (q3)))));repeat' (first|refine jaa fun K hK=>?_|refine wkA ?_|(with_reducible refine gR 12 ?_);refine dC 12 ([],[92],[]) [] [0,1,2,3,4,5,6,7,8] mixed ?_|(with_reducible refine gR 14 ?_);refine dE 14 [0,1,2,3,4,5,6,7,8,9,10,11,12,13,14,15,16,17,18,19,20,21,22,23,24,25,26,27,28,29,30,31,32,33,34,35,36,37,38,39] mixed ?_|(refine hK _ _ ?_;clear hK K)|(refine jad (fun hc=>?_) (fun hc=>?_)<;>first | contradiction | (exfalso;omega) | skip)|refine alF 3 ?_|refine cq (hvis) ?_|refine wkB ?_|exact True.intro|(clear hK K)));all_goals (try clear W)
   (repeat clear hc)
   have hKb:=hK;clear hK
   refine jag (S:=Nat) [(6,1),(16,2),(138,68)] (fun k=>k≤V.length) (fun k=>[(16,rI k)]) (fun k=>⟨[],[(0,.var 29 (jah p)),(1,.var 38 (jcc z)),(2,.var 52 (ja4 w)),(3,.var 56 (jbC c))]⟩) (fun k=>V.length - k) 0 (by omega) (jau rfl lle) ?_
   rintro k hk2 Ks hKs
   by_cases hkl:k < V.length
   ·obtain ⟨r1,⟨b1,b2,b3,b4⟩⟩:=q4 k hkl
    generalize hy:nth c.vars k=y at *
    generalize hv:nth V k=v at *
    have hsz:0 < y.text.size:=by
     rcases Nat.eq_zero_or_pos y.text.size with h | h
     ·exact (b1 (jsz h)).elim
     ·exact h
    have h4:decide (v.ty=4)=decide (jaG y.text 0=35):=decide_eq_decide.2 b2
    have h3:decide (v.ty=3)=decide (jaG y.text 0=34):=decide_eq_decide.2 b3
    have h2:(decide (v.ty=2) && !decide (y.text=(⟨#[116,114,117,101]⟩:ByteArray)) && !decide (y.text=(⟨#[102,97,108,115,101]⟩:ByteArray)))=false:=by
     by_cases e2:v.ty=2
     ·rcases b4 e2 with e | e<;>rw [e,e2]<;>rfl
     ·rw [decide_eq_false e2];rfl
    (refine S ?_;try exact True.intro)
    (have W:=And.intro q3 (And.intro hy (And.intro hv (And.intro r1 (And.intro b1 (And.intro h4 (And.intro h3 (h2)))))));repeat' (first|refine jaa fun K hK=>?_|refine wkA ?_|(with_reducible refine gR 20 ?_);refine dE 20 [0,1,2,3,4,5,6,7,8,9,10,11,12,13,14,15,16,17,18,19,20,21,22,23,24,25,26,27,28,29,30,31,32,33,34,35,36,37,38,39,40,41,42,43,44,45,46,47,48,49,50,51,52,53,54,55] mixed ?_|(refine hK _ _ ?_;clear hK K)|(refine jad (fun hc=>?_) (fun hc=>?_)<;>first | contradiction | (exfalso;omega) | skip)|refine wkB ?_|exact True.intro|(clear hK K)));all_goals (try clear W)
    ·exfalso
     by_cases e2:v.ty=2
     ·rcases b4 e2 with e | e<;>simp [e2,e] at hc
     ·simp [e2] at hc
    ·exact hKs _ _ (jar (k+1) (by omega) (by show V.length - (k+1) < V.length - k;omega) rfl lle)
   ·(refine S ?_;try exact True.intro)
    (have W:=q3;repeat' (first|refine jaa fun K hK=>?_|refine wkA ?_|(refine hK _ _ ?_;clear hK K)|(refine jad (fun hc=>?_) (fun hc=>?_)<;>first | contradiction | (exfalso;omega) | skip)|(refine hKb _ _ ?_)|refine wkB ?_|exact True.intro|(clear hK K)));all_goals (try clear W)
    refine hKr _ _ (jaM [3] (i+1) (by omega) (by show z.calls.length - (i+1) < z.calls.length - i;omega) rfl Sd (by rfl) vtl)
  ·(refine S ?_;try exact True.intro)
   (have W:=hvc;repeat' (first|refine jaa fun K hK=>?_|refine wkA ?_|(refine hK _ _ ?_;clear hK K)|(refine jad (fun hc=>?_) (fun hc=>?_)<;>first | contradiction | (exfalso;omega) | skip)|(refine hKo _ _ ?_)|refine wkB ?_|exact True.intro|(clear hK K)));all_goals (try clear W)
   (refine jaU [.tmp 6] ?_;try simp only [go_sem])
 ·refine jbO Tryz.func4 Tryz.ntmps4 ?_
  (have W:=he;repeat' (first|refine jaa fun K hK=>?_|refine wkA ?_|(refine hK _ _ ?_;clear hK K)|(refine jad (fun hc=>?_) (fun hc=>?_)<;>first | contradiction | (exfalso;omega) | skip)|refine cp (jrv) ?_|refine cp (jru _) ?_|refine cp (hs) ?_|refine wkB ?_|exact True.intro|(clear hK K)));all_goals (try clear W)
  (refine jaU [.tmp 6] ?_;try simp only [go_sem])
end Go.Proofs.YtdekkklnfifphaaGreatDoor
