/- A region that leaves its order open, effects and all: the effects stand in a chain, what is quiet lies anywhere. The steps of a walk as lemmas; what each asks beside is reckoned by its own default. No conditions. -/
import Derived.Test.YtoclmdkhgfghbaaGreatDoorGdL
set_option linter.all false
namespace Go.Gd
open Go
section
variable {P:Program} {ops:Array Oper} {H:Hp}
theorem jbP {ev ev':Operand→AV} {ty:TypeId} {K:AV→Hp→Prop} (o:Op) (h:∀ x∈o.operands.toList,ev x=ev' x):vc P ev H ty K o=vc P ev' H ty K o:=by
 have quiet:((vq P ev H o).1∧K (vq P ev H o).2 H)=((vq P ev' H o).1∧K (vq P ev' H o).2 H):=by rw [jbr o h]
 have other:jcK P o ty ev H K=jcK P o ty ev' H K:=by
  unfold jcK
  apply propext
  constructor<;>intro hh w ρ dst pos after guard h1 h2
  ·exact hh w ρ dst pos after guard h1 fun x hx=>by rw [h x hx];exact h2 x hx
  ·exact hh w ρ dst pos after guard h1 fun x hx=>by rw [← h x hx];exact h2 x hx
 cases o
 case box t x=>simp only [vc];rw [h x (by simp [Op.operands])]
 case store t a x=>simp only [vc];rw [h x (by simp [Op.operands]),h a (by simp [Op.operands])]
 case buildSlice t n ps=>
  simp only [Op.operands] at h
  simp only [vc]
  rw [List.map_congr_left (g:=fun p=>(p.1,ev' p.2)) (fun x hx=>by rw [h x.2 (by simp at hx ⊢;exact ⟨_,hx⟩)])]
 case binOp op t x y t'=>
  cases op<;>first
   | (simp only [vc];rw [h x (by simp [Op.operands]),h y (by simp [Op.operands])];done)
   | exact quiet
 case call c=>
  obtain ⟨callee,args,ts⟩:=c
  cases callee
  case value f=>
   simp only [Op.operands,Call.operands] at h
   simp only [vc]
   rw [h f (by simp),List.map_congr_left (fun x hx=>h x (by simp at hx ⊢;exact .inr hx))]
  case invoke f m=>
   simp only [Op.operands,Call.operands] at h
   simp only [vc]
   rw [h f (by simp),List.map_congr_left (fun x hx=>h x (by simp at hx ⊢;exact .inr hx))]
  case builtin b=>
   have hm:args.toList.map ev=args.toList.map ev':=List.map_congr_left fun x hx=>h x (by simpa [Op.operands,Call.operands] using hx)
   cases b
   case append=>
    simp only [vc]
    split
    ·rename_i t t' a x ht ha
     rw [h a (by simp [Op.operands,Call.operands];rw [← Array.mem_toList_iff,ha];simp),h x (by simp [Op.operands,Call.operands];rw [← Array.mem_toList_iff,ha];simp)]
    ·rfl
   case len=>exact quiet
   case cap=>exact quiet
   case max=>exact quiet
   case min=>exact quiet
   all_goals (simp only [vc,jac,Bool.false_eq_true,if_false];rw [hm])
  all_goals exact other
 all_goals first
  | rfl
  | exact quiet
  | exact other
theorem jeJ {t:TypeId} {n:Nat} {parts:List (Nat×AV)} {K K':AV→Hp→Prop} (h:jft P H t n parts K) (hk:∀ r H,K r H→K' r H):jft P H t n parts K':=by
 unfold jft at *
 split at h
 ·rename_i e he
  split at h
  ·refine ⟨h.1,?_⟩
   rcases h.2 with h2 | ⟨h2,i,h3,h4⟩
   ·exact .inl ⟨h2.1,hk _ _ h2.2⟩
   ·exact .inr ⟨h2,i,h3,hk _ _ h4⟩
  ·exact h.elim
 ·exact h.elim
theorem jho {ev:Operand→AV} {ty:TypeId} {K K':AV→Hp→Prop} (o:Op) (hk:∀ r H',K r H'→K' r H') (h:vc P ev H ty K o):vc P ev H ty K' o:=by
 have quiet:((vq P ev H o).1∧K (vq P ev H o).2 H)→((vq P ev H o).1∧K' (vq P ev H o).2 H):=fun h=>⟨h.1,hk _ _ h.2⟩
 have other:jcK P o ty ev H K→jcK P o ty ev H K':=fun hh w ρ dst pos after guard h1 h2=>by
  obtain ⟨w',H',r,g1,g2⟩:=hh w ρ dst pos after guard h1 h2
  exact ⟨w',H',r,hk _ _ g1,g2⟩
 cases o
 case box t x=>obtain ⟨h1,i,h2,h3⟩:=h;exact ⟨h1,i,h2,hk _ _ h3⟩
 case alloc t=>
  simp only [vc,ja5] at h ⊢
  split at h
  ·obtain ⟨i,h2,h3⟩:=h;exact ⟨i,h2,hk _ _ h3⟩
  ·exact h.elim
 case store t a x=>
  simp only [vc,jcI] at h ⊢
  split at h
  ·split at h
   ·exact ⟨h.1,hk _ _ h.2⟩
   ·exact h.elim
  ·exact h.elim
 case buildSlice t n ps=>exact jeJ h hk
 case binOp op t x y t'=>
  have nileq:∀ ne,jbk P ne t (ev x) (ev y) H K→jbk P ne t (ev x) (ev y) H K':=fun ne h=>by
   unfold jbk at h ⊢
   split at h
   ·exact ⟨h.1,fun b hb=>hk _ _ (h.2 b hb)⟩
   ·exact ⟨h.1,fun b hb=>hk _ _ (h.2 b hb)⟩
   ·rename_i hno
    exact ⟨h.1,hk _ _ h.2⟩
  cases op<;>first
   | exact nileq false h
   | exact nileq true h
   | exact quiet h
 case call c=>
  obtain ⟨callee,args,ts⟩:=c
  cases callee
  case value f=>exact jbO h hk
  case invoke f m=>
   simp only [vc,jb3] at h ⊢
   split at h
   ·split at h
    ·exact jbO h hk
    ·exact h.elim
   ·exact h.elim
  case builtin b=>
   have bvc:jaL P b ts.toList (args.toList.map ev) H K→jaL P b ts.toList (args.toList.map ev) H K':=fun hh w vs ty cs h1 h2=>by
    obtain ⟨w',H',r,v,g1,g2,g3⟩:=hh w vs ty cs h1 h2
    exact ⟨w',H',r,v,g1,hk _ _ g2,g3⟩
   cases b
   case append=>
    simp only [vc] at h ⊢
    split at h
    ·intro w va vx ty h1 h2 h3
     obtain ⟨w',H',r,v,g1,g2,g3⟩:=h w va vx ty h1 h2 h3
     exact ⟨w',H',r,v,g1,hk _ _ g2,g3⟩
    ·exact h.elim
   case len=>exact quiet h
   case cap=>exact quiet h
   case max=>exact quiet h
   case min=>exact quiet h
   all_goals exact bvc h
  all_goals exact other h
 all_goals first
  | exact quiet h
  | exact other h
-- what is quiet, what is an effect
def jdp:Op→Bool
 | .buildSlice ..=>true
 | _=>false
abbrev AS:=List Nat×List Nat×List Nat
def qcO (A:AS) (o:Oper):Bool:=match o.dst with
 | some t=>A.2.1.contains t
 | none=>false
def gcO (A:AS) (o:Oper):Bool:=match o.dst with
 | some t=>A.2.2.contains t
 | none=>false
def gdO (A:AS) (o:Oper):Bool:=o.guard.isSome && gcO A o && jan o.op
def je1 (A:AS) (o:Oper):Bool:=(o.guard.isNone && !jac o.op && !jgt o.op && !(jdp o.op && !gcO A o) && !qcO A o) || gdO A o
def vcQ (P:Program) (ev:Operand→AV) (H:Hp) (K:AV→Prop):Op→Prop
 | .call { callee:=.value f,args,.. }=>∃ r,(jaU P (ev f) (args.toList.map ev) H fun r' H'=>r'=r∧H'=H)∧K r
 | .lookup t m k c=>∃ r,jcK P (.lookup t m k c) 0 ev H (fun r' H'=>r'=r∧H'=H)∧K r
 | _=>False
def jcp (o:Oper):Bool:=match o.op with
 | .load ..=>true
 | .lookup ..=>true
 | .call { callee:=.value _,.. }=>true
 | .call { callee:=.invoke ..,.. }=>true
 | .call { callee:=.builtin .len,argTypes,.. }=>mapTs.contains (argTypes.toList.headD 0)
 | _=>false
def jcO (A:AS) (o:Oper):Bool:=match o.op with
 | .alloc _=>true
 | .box ..=>true
 | .store ..=>!A.1.isEmpty && !A.2.2.contains 1000000
 | .call { callee:=.value _,.. }=>gcO A o
 | .call { callee:=.builtin .append,.. }=>gcO A o
 | .buildSlice ..=>gcO A o
 | .makeSlice ..=>gcO A o
 | _=>false
def jcP (o:Oper):Bool:=match o.op with
 | .load ..=>o.guard.isNone
 | _=>false
def HLx (A:AS) (H H':Hp):Prop:=∀ i r,A.1.contains i=false→H.get i=some r→H'.get i=some r∨(A.1.contains (i+16)=true∧∃ t c c' cs,r=.var t (c::cs)∧H'.get i=some (.var t (c'::cs)))
theorem HLx.refl (A:AS) (H:Hp):HLx A H H:=fun _ _ _ h=>.inl h
theorem HLx.trans {L:AS} {A B C:Hp} (h:HLx L A B) (k:HLx L B C):HLx L A C:=fun i r ha e=>by
 rcases h i r ha e with h1 | ⟨h0,t,c,c',cs,rfl,h1⟩
 ·exact k i r ha h1
 ·rcases k i _ ha h1 with k1 | ⟨_,t',d,d',ds,e',k1⟩
  ·exact .inr ⟨h0,t,c,c',cs,rfl,k1⟩
  ·cases e';exact .inr ⟨h0,t,c,d',cs,rfl,k1⟩
theorem HLx.put {A:AS} {H:Hp} {i:Nat} {r:Row} (h:H.get i=none):HLx A H (H.put i r):=fun j s _ hj=>by
 left
 rw [Hp.get_put,if_neg (by rintro rfl;rw [h] at hj;cases hj)];exact hj
theorem HLx.set {A:AS} {H:Hp} {i:Nat} {r:Row} (h:A.1.contains i=true):HLx A H (H.put i r):=fun j s ha hj=>by
 left
 rw [Hp.get_put,if_neg (by rintro rfl;rw [h] at ha;cases ha)];exact hj
def jds (A:AS):AV→Bool
 | .pt i _ _ j=>!A.1.contains i && (decide (1≤j) || !A.1.contains (i+16))
 | _=>true
def jjr (A:AS):AV→Bool
 | .pt i _ _ _=>A.1.contains i
 | _=>false
def je7 (A:AS) (ev:Operand→AV):Op→Bool
 | .load _ x=>jds A (ev x)
 | .store _ a _=>(A.1.isEmpty || A.2.2.contains 1000000) || jjr A (ev a)
 | _=>true
theorem jf5 {A:AS} {H H':Hp} (h:HLx A H H') {a:AV} (ha:jds A a=true) {x:Prop×List AV} (hc:jaR H a=some x):jaR H' a=some x:=by
 unfold jaR at *
 split at hc
 ·exact hc
 ·rename_i i m k j
  have ha:A.1.contains i=false∧(1≤j∨A.1.contains (i+16)=false):=by
   simp only [jds,Bool.and_eq_true,Bool.or_eq_true,Bool.not_eq_true',decide_eq_true_eq] at ha;exact ha
  cases e:H.get i with
  | none=>rw [e] at hc;cases hc
  | some r=>
   rw [e] at hc
   rcases h i r ha.1 e with h1 | ⟨h0,t,c,c',cs,rfl,h1⟩
   ·simp only [h1];exact hc
   ·rcases ha.2 with h2 | h2
    ·obtain ⟨j',rfl⟩:∃ j',j=j'+1:=⟨j - 1,by omega⟩
     simp only [h1,List.drop_succ_cons] at hc ⊢;exact hc
    ·rw [h0] at h2;cases h2
 ·cases hc
theorem jid {A:AS} {H H':Hp} (h:HLx A H H') {t:TypeId} {a:AV} (ha:jds A a=true) (hq:(jb1 P H t a).1):jb1 P H' t a=jb1 P H t a:=by
 unfold jb1 at *
 cases e:jaR H a with
 | none=>rw [e] at hq;exact hq.elim
 | some x=>rw [jf5 h ha e]
def vcD (P:Program) (ev:Operand→AV) (H:Hp) (ty:TypeId) (K:AV→Hp→Prop) (op:Op):Prop:=if jgt op then (vq P ev H op).1∧K (vq P ev H op).2 H else match op with
 | .buildSlice t n parts=>jcj P t n (parts.toList.map fun p=>(p.1,ev p.2)) fun r=>K r H
 | op=>vc P ev H ty K op
theorem jjM {ev:Operand→AV} {ty:TypeId} {K:AV→Hp→Prop} (t:TypeId) (n:Nat) (parts:Array (Nat×Operand)):vcD P ev H ty K (.buildSlice t n parts)=jcj P t n (parts.toList.map fun p=>(p.1,ev p.2)) fun r=>K r H:=rfl
theorem jeM {ev:Operand→AV} {ty:TypeId} {K:AV→Hp→Prop} {op:Op} (h1:¬ jgt op=true) (h2:¬ jdp op=true):vcD P ev H ty K op=vc P ev H ty K op:=by
 unfold vcD
 rw [if_neg h1]
 cases op<;>first | rfl | (exact (h2 rfl).elim)
def vcN (P:Program) (A:AS) (ev:Operand→AV) (H:Hp) (K:AV→Hp→Prop):Op→Prop
 | .call { callee:=.value f,args,.. }=>jaU P (ev f) (args.toList.map ev) H fun r H'=>HLx A H H'∧K r H'
 | .buildSlice t n parts=>jft P H t n (parts.toList.map fun p=>(p.1,ev p.2)) fun r H'=>HLx A H H'∧K r H'
 | .makeSlice t l c=>jcK P (.makeSlice t l c) 0 ev H fun r H'=>HLx A H H'∧K r H'
 | .call { callee:=.builtin .append,args,argTypes }=>vc P ev H 0 (fun r H'=>HLx A H H'∧K r H') (.call ⟨.builtin .append,args,argTypes⟩)
 | _=>False
def jcJ (A:AS) (P:Program) (ops:Array Oper) (K:List AV→Hp→Prop):List Oper→List AV→Hp→Prop
 | [],F,H=>K F H
 | o::rest,F,H=>match o.guard with
  | none=>if qcO A o=true then vcQ P (evA F) H (fun r=>jcJ A P ops K rest (jaw F o.dst r) H) o.op else if gcO A o=true then vcN P A (evA F) H (fun r H'=>jcJ A P ops K rest (jaw F o.dst r) H') o.op else je7 A (evA F) o.op=true∧vcD P (evA F) H o.type (fun r H'=>jcJ A P ops K rest (jaw F o.dst r) H') o.op
  | some (j,want)=>match ja4 ops F j want with
   | some b=>if gdO A o=true then (b=true→okG F o.op=true∧vcN P A (evG F) H (fun r H'=>jcJ A P ops K rest (jaw F o.dst r) H') o.op)∧(b=false→jcJ A P ops K rest (jaw F o.dst (.gd false (.raw (.bool false)))) H)
    else (jan o.op || jad o.op)=true∧vcG P F H b (fun r=>jcJ A P ops K rest (jaw F o.dst r) H) o.op
   | none=>False
theorem jic {H':Hp} (ts:List TypeId) (args:List AV) (h:mapTs.contains (ts.headD 0)=false):jaA P H .len ts args=jaA P H' .len ts args:=by
 unfold jaA
 cases ts with
 | nil=>rfl
 | cons t ts=>
  cases args with
  | nil=>rfl
  | cons x l=>
   show jg4 P H t x=jg4 P H' t x
   unfold jg4
   have h:mapTs.contains t=false:=h
   have hn:¬ (mapTs.contains t=true):=by rw [h];exact Bool.false_ne_true
   cases x with
   | raw v=>cases v<;>rfl
   | mr i=>
    show (if mapTs.contains t=true then _ else jaP)=(if mapTs.contains t=true then _ else jaP)
    rw [if_neg hn,if_neg hn]
   | _=>rfl
theorem jeP {ev:Operand→AV} {H':Hp} {o:Oper} (h:jcp o=false):vq P ev H o.op=vq P ev H' o.op:=by
 obtain ⟨dst,op,ty,pos,after,guard⟩:=o
 cases op<;>first
  | rfl
  | (simp [jcp] at h;done)
  | skip
 rename_i c
 obtain ⟨callee,args,ts⟩:=c
 cases callee
 case builtin b=>
  cases b
  case len=>exact jic _ _ h
  all_goals (simp only [vq];unfold jaA;generalize ts.toList=a;generalize args.toList.map ev=b;cases a<;>cases b<;>rfl)
 all_goals rfl
theorem jjN {F:List AV} {g:Bool} {K:AV→Prop} {H':Hp} {o:Oper} (h:jcp o=false):vcG P F H g K o.op=vcG P F H' g K o.op:=by
 have hc:jan o.op=false:=by
  obtain ⟨dst,op,ty,pos,after,guard⟩:=o
  cases op<;>first
   | rfl
   | (rename_i c;obtain ⟨callee,args,ts⟩:=c;cases callee<;>first | rfl | simp [jcp] at h)
 by_cases hp:jcB o.op=true
 ·obtain ⟨dst,op,ty,pos,after,guard⟩:=o
  cases op<;>first | (cases hp;done) | rfl | (rename_i c;obtain ⟨callee,args,ts⟩:=c;cases callee<;>first | (cases hp;done) | simp [jcp] at h)
 have hp:jcB o.op=false:=by simpa using hp
 rw [jbl _ hc hp,jbl _ hc hp,jeP h]
theorem jee {ev:Operand→AV} {ty:TypeId} {K:AV→Hp→Prop} {o:Op} (h:jac o=true):vc P ev H ty K o=((vq P ev H o).1∧K (vq P ev H o).2 H):=by
 cases o
 case binOp op t x y t'=>cases op<;>first | (simp [jac] at h;done) | simp [vc,jac]
 case call c=>
  obtain ⟨callee,args,ts⟩:=c
  cases callee
  case builtin b=>cases b<;>first | (simp [jac] at h;done) | simp [vc,jac]
  all_goals (simp [jac] at h;done)
 all_goals first
  | (simp [jac] at h;done)
  | simp [vc,jac]
theorem jli {A:AS} {K:List AV→Hp→Prop} {o:Oper} {rest:List Oper} {F:List AV} (h:jcJ A P ops K (o::rest) F H) :
  (je1 A o=true∧∀ G,jgu ops o F G→AOp P ops o G H fun G' H'=>(jcO A o=true→HLx A H H')∧∃ r,G'=jaw G o.dst r∧jcJ A P ops K rest (jaw F o.dst r) H')∨
  (je1 A o=false∧∃ r,QV P ops o F H r∧(jcp o=false→∀ H',QV P ops o F H' r)∧(jcP o=true→∀ H',HLx A H H'→QV P ops o F H' r)∧jcJ A P ops K rest (jaw F o.dst r) H):=by
 unfold jcJ at h
 split at h
 ·rename_i hg
  by_cases hqc:qcO A o=true
  ·rw [if_pos hqc] at h
   refine .inr ⟨by simp [je1,gdO,hg,hqc],?_⟩
   obtain ⟨dst,op,ty,pos,after,guard⟩:=o
   simp only at hg
   subst hg
   cases op<;>first | exact h.elim | skip
   case call=>
    rename_i c
    obtain ⟨callee,args,ts⟩:=c
    cases callee<;>first | exact h.elim | skip
    obtain ⟨r,h1,h2⟩:=h
    exact ⟨r,jg9 h1,fun hd=>by simp [jcp] at hd,fun hld=>by simp [jcP] at hld,h2⟩
   case lookup=>
    rename_i t m k c
    obtain ⟨r,h1,h2⟩:=h
    refine ⟨r,fun G hG=>?_,fun hd=>by simp [jcp] at hd,fun hld=>by simp [jcP] at hld,h2⟩
    refine jbR (K:=fun F' H'=>F'=jaw G dst r∧H'=H) rfl ?_
    rw [jbP _ hG.1]
    have e:∀ K:AV→Hp→Prop,vc P (evA F) H ty K (.lookup t m k c)=jcK P (.lookup t m k c) ty (evA F) H K:=fun K=>by simp [vc,jac]
    show vc P (evA F) H ty _ (.lookup t m k c)
    rw [e]
    intro w ρ dst' pos' after' guard' g1 g2
    obtain ⟨w',H',r',hk,g⟩:=h1 w ρ dst' pos' after' guard' g1 g2
    exact ⟨w',H',r',⟨by rw [hk.1],hk.2⟩,g⟩
  rw [if_neg hqc] at h
  by_cases hgc:gcO A o=true
  ·rw [if_pos hgc] at h
   have hqc:qcO A o=false:=by simpa using hqc
   obtain ⟨dst,op,ty,pos,after,guard⟩:=o
   simp only at hg
   subst hg
   cases op
   case call=>
    rename_i c _
    obtain ⟨callee,args,ts⟩:=c
    cases callee
    case value f _=>
     refine .inl ⟨by simp [je1,jac,jgt,jdp,hqc],fun G hG=>?_⟩
     refine jbR rfl ?_
     rw [jbP _ hG.1]
     exact jbO (f:=evA F f) (args:=args.toList.map (evA F)) h fun r H' hk=>⟨fun _=>hk.1,r,rfl,hk.2⟩
    case builtin bi _=>
     cases bi
     case append=>
      refine .inl ⟨by simp [je1,jac,jgt,jdp,hqc],fun G hG=>?_⟩
      refine jbR rfl ?_
      rw [jbP _ hG.1]
      exact jho (K:=fun r H'=>HLx A H H'∧jcJ A P ops K rest (jaw F dst r) H') (.call ⟨.builtin .append,args,ts⟩) (fun r H' hk=>⟨fun _=>hk.1,r,rfl,hk.2⟩) h
     all_goals exact h.elim
    all_goals exact h.elim
   case buildSlice=>
    refine .inl ⟨by simp [je1,jac,jgt,jdp,hqc,hgc],fun G hG=>?_⟩
    refine jbR rfl ?_
    rw [jbP _ hG.1]
    exact jeJ h fun r H' hk=>⟨fun _=>hk.1,r,rfl,hk.2⟩
   case makeSlice=>
    rename_i t l c _
    refine .inl ⟨by simp [je1,jac,jgt,jdp,hqc],fun G hG=>?_⟩
    refine jbR rfl ?_
    rw [jbP _ hG.1]
    have e:∀ K:AV→Hp→Prop,vc P (evA F) H ty K (.makeSlice t l c)=jcK P (.makeSlice t l c) ty (evA F) H K:=fun K=>by simp [vc,jac]
    show vc P (evA F) H ty _ (.makeSlice t l c)
    rw [e]
    intro w ρ dst' pos' after' guard' h1 h2
    obtain ⟨w',H',r,hk,g⟩:=h w ρ dst' pos' after' guard' h1 h2
    exact ⟨w',H',r,⟨fun _=>hk.1,r,rfl,hk.2⟩,g⟩
   all_goals exact h.elim
  rw [if_neg hgc] at h
  obtain ⟨hA,h⟩:=h
  by_cases he:jgt o.op=true
  ·unfold vcD at h
   rw [if_pos he] at h
   exact .inr ⟨by simp [je1,gdO,hg,he],_,jbL hg h.1,fun hd H'=>by rw [jeP hd];exact jbL hg (by rw [← jeP (H:=H) hd];exact h.1),fun hld=>by
    obtain ⟨dst,op,ty,pos,after,guard⟩:=o
    cases op<;>first | (simp [jgt] at he;done) | (simp [jcP] at hld;done),h.2⟩
  ·by_cases hl:jdp o.op=true
   ·refine .inr ⟨by simp [je1,gdO,hg,hl,hgc],?_⟩
    obtain ⟨dst,op,ty,pos,after,guard⟩:=o
    simp only at hg
    subst hg
    cases op<;>first | (simp [jdp] at hl;done) | skip
    rename_i t n parts
    rw [jjM] at h
    obtain ⟨r,h1,h2⟩:=jct h
    exact ⟨r,jha (h2 _ rfl),fun _ H'=>jha (h2 _ rfl),fun hld=>by simp [jcP] at hld,h1⟩
   ·rw [jeM he hl] at h
    by_cases hq:jac o.op=true
    ·have h':(vq P (evA F) H o.op).1∧jcJ A P ops K rest (jaw F o.dst (vq P (evA F) H o.op).2) H:=by
      rw [jee hq] at h
      exact h
     refine .inr ⟨by simp [je1,gdO,hg,hq],_,jbL hg h'.1,fun hd H'=>by rw [jeP hd];exact jbL hg (by rw [← jeP (H:=H) hd];exact h'.1),fun hld H' hle=>?_,h'.2⟩
     obtain ⟨dst,op,ty,pos,after,guard⟩:=o
     cases op<;>first | (simp [jcP] at hld;done) | skip
     rename_i t a
     have e:vq P (evA F) H' (.load t a)=vq P (evA F) H (.load t a):=jid hle hA h'.1
     have:=jbL (P:=P) (ops:=ops) (H:=H') (o:=⟨dst,.load t a,ty,pos,after,guard⟩) (F:=F) hg (by rw [e];exact h'.1)
     rw [e] at this
     exact this
    ·refine .inl ⟨by simp [je1,gdO,hg];simp at hq he hl hqc;exact ⟨⟨⟨hq,he⟩,.inl hl⟩,hqc⟩,fun G hG=>?_⟩
     refine jbR hg ?_
     rw [jbP o.op hG.1]
     by_cases hgr:jcO A o=true
     ·obtain ⟨dst,op,ty,pos,after,guard⟩:=o
      cases op<;>first | (simp [jcO] at hgr;done) | (exact (hgc hgr).elim) | skip
      case call c=>
       obtain ⟨callee,args,ts⟩:=c
       cases callee
       case builtin bi=>cases bi<;>first | (exact (hgc hgr).elim) | (simp [jcO] at hgr;done)
       all_goals first | (exact (hgc hgr).elim) | (simp [jcO] at hgr;done)
      case alloc t=>
       simp only [vc,ja5] at h ⊢
       split at h
       ·obtain ⟨i,h2,h3⟩:=h;exact ⟨i,h2,fun _=>HLx.put h2,_,rfl,h3⟩
       ·exact h.elim
      case box t x=>obtain ⟨h1,i,h2,h3⟩:=h;exact ⟨h1,i,h2,fun _=>HLx.put h2,_,rfl,h3⟩
      case store t a x=>
       simp only [jcO,Bool.and_eq_true,Bool.not_eq_true'] at hgr
       simp only [je7,hgr.1,hgr.2,Bool.false_or] at hA
       simp only [vc,jcI] at h ⊢
       split at h
       ·rename_i i m k j n ha hn
        have hi:A.1.contains i=true:=by rw [ha] at hA;exact hA
        split at h
        ·rename_i r hr
         obtain ⟨h1,h2⟩:=h
         exact ⟨h1,fun _=>HLx.set hi,_,rfl,h2⟩
        ·exact h.elim
       ·exact h.elim
     ·exact jho o.op (fun r H' hk=>⟨fun hgr'=>(hgr hgr').elim,r,rfl,hk⟩) h
 ·rename_i j want hg
  split at h
  ·rename_i b hb
   by_cases hgd:gdO A o=true
   ·rw [if_pos hgd] at h
    refine .inl ⟨by simp [je1,hgd],fun G hG=>?_⟩
    obtain ⟨dst,op,ty,pos,after,guard⟩:=o
    simp only at hg
    subst hg
    have hc:jan op=true:=by unfold gdO at hgd;simp only [Bool.and_eq_true] at hgd;exact hgd.2
    cases op<;>first | (cases hc;done) | skip
    rename_i c
    obtain ⟨callee,args,ts⟩:=c
    cases callee<;>first | (cases hc;done) | skip
    rename_i f
    have hev:∀ x∈(Op.call ⟨.value f,args,ts⟩).operands.toList,evA G x=evA F x:=hG.1
    have hbG:=hG.2 j want rfl
    rw [hb] at hbG
    have hGg:∀ x∈(Op.call ⟨.value f,args,ts⟩).operands.toList,evG G x=evG F x:=fun x hx=>by unfold evG;rw [hev x hx]
    refine jay rfl hbG (fun hbw w tm Q next h1 h2 hn=>?_) (fun hbw=>⟨.gd false (.raw (.bool false)),jbV rfl,⟨fun _=>HLx.refl _ _,_,rfl,h.2 hbw⟩⟩)
    obtain ⟨ok,hcall⟩:=h.1 hbw
    have ok:okG G (.call ⟨.value f,args,ts⟩)=true:=by
     unfold okG at ok ⊢
     rw [List.all_eq_true] at ok ⊢
     exact fun x hx=>by rw [hev x hx];exact ok x hx
    have hcg:=jbU ok
    have e1:evO G f=evG F f:=(hcg f (by simp [Op.operands,Call.operands])).trans (hGg f (by simp [Op.operands,Call.operands]))
    have e2:args.toList.map (evO G)=args.toList.map (evG F):=List.map_congr_left fun x hx=>(hcg x (by simp [Op.operands,Call.operands] at hx ⊢;exact .inr hx)).trans (hGg x (by simp [Op.operands,Call.operands] at hx ⊢;exact .inr hx))
    refine jbc (ev:=evO G) e1 e2 hcall h1 (jbx h2) fun v r' w' H' hR g1 g2 g3=>?_
    rw [Act.put_eq]
    exact hn _ w' _ H' ⟨fun _=>hR.1,r',rfl,hR.2⟩ g1 ((h2.ext g3).put dst g2 []) g3
   rw [if_neg hgd] at h
   obtain ⟨hq,hv⟩:=h
   obtain ⟨r,h1,h2⟩:=jed hv
   have h3:=h2 F (fun r'=>r'=.gd b r) (fun _ _=>rfl) rfl
   exact .inr ⟨by simp [je1,hg,hgd],_,jd7 hg hb hq h3,fun hd H'=>jd7 hg hb hq (by rw [jjN hd] at h3;exact h3),(fun hld=>by
    unfold jcP at hld
    split at hld
    ·rw [hg] at hld;cases hld
    ·cases hld),h1⟩
  ·exact h.elim
def atO (l:List Oper) (i:Nat):Oper:=l.getD i default
def jbn (A:AS) (l:List Oper) (i:Nat):Bool:=je1 A (atO l i)
def jd5 (A:AS) (E:List Nat) (l:List Oper) (ps:List (List Nat)):List Nat→List Nat→Bool
 | done,[]=>(List.range l.length).all fun i=>done.contains i
 | done,i::rest=>((ps.getD i []).all fun k=>done.contains k) && !done.contains i && decide (i < l.length) &&
   (!jbn A l i || ((rest.all fun k=>(ps.getD k []).contains i || E.contains k) && done.all fun q=>jbn A l q || !jcp (atO l q) || (ps.getD i []).contains q || (jcO A (atO l i) && jcP (atO l q)))) && jd5 A E l ps (i::done) rest
def jhX (A:AS) (E:List Nat) (l:List Oper) (ord:List Nat):Bool:=jc3 l && jd5 A E l (ja7 l) [] ord && E.all fun i=>!qcO A (atO l i) && !gcO A (atO l i)
def mem (done:List Nat) (i:Nat):Bool:=done.contains i
theorem jaS {A:AS} {E:List Nat} {l:List Oper} {done rest:List Nat} {i:Nat} (h:jd5 A E l (ja7 l) done (i::rest)=true) :
  (∀ k∈(ja7 l).getD i [],k∈done)∧i ∉ done∧i < l.length∧(jbn A l i=true→(∀ k∈rest,i∈(ja7 l).getD k []∨k∈E)∧∀ q∈done,jbn A l q=true∨jcp (atO l q)=false∨q∈(ja7 l).getD i []∨(jcO A (atO l i)=true∧jcP (atO l q)=true))∧jd5 A E l (ja7 l) (i::done) rest=true:=by
 simp only [jd5,Bool.and_eq_true,List.all_eq_true,List.contains_iff_mem,Bool.not_eq_true',decide_eq_true_eq,Bool.or_eq_true] at h
 obtain ⟨⟨⟨⟨h1,h2⟩,h3⟩,h4⟩,h5⟩:=h
 refine ⟨h1,by simpa using h2,h3,fun he=>?_,h5⟩
 rcases h4 with h4 | h4
 ·rw [he] at h4;cases h4
 ·exact ⟨h4.1,fun q hq=>by
   rcases h4.2 q hq with ((h | h) | h) | h
   ·exact .inl h
   ·exact .inr (.inl h)
   ·exact .inr (.inr (.inl h))
   ·exact .inr (.inr (.inr h))⟩
theorem jg1 {A:AS} {E:List Nat} {l:List Oper}:∀ {rest done:List Nat},jd5 A E l (ja7 l) done rest=true→∀ e∈rest,jbn A l e=true→∀ q∈done,jbn A l q=true∨jcp (atO l q)=false∨q∈(ja7 l).getD e []∨(jcO A (atO l e)=true∧jcP (atO l q)=true)
 | [],_,_=>fun e he=>by simp at he
 | i::rest,done,h=>fun e he hef q hq=>by
  obtain ⟨_,_,_,h4,h5⟩:=jaS h
  rcases List.mem_cons.1 he with rfl | he
  ·exact (h4 hef).2 q hq
  ·exact jg1 h5 e he hef q (List.mem_cons_of_mem _ hq)
theorem jb0 {A:AS} {E:List Nat} {l:List Oper}:∀ {rest done:List Nat},jd5 A E l (ja7 l) done rest=true→∀ i,i < l.length→i∈done∨i∈rest
 | [],done,h=>fun i hi=>by
  simp only [jd5,List.all_eq_true,List.mem_range,List.contains_iff_mem] at h
  exact .inl (h i hi)
 | j::rest,done,h=>fun i hi=>by
  obtain ⟨_,_,_,_,h5⟩:=jaS h
  rcases jb0 h5 i hi with h | h
  ·rcases List.mem_cons.1 h with rfl | h
   ·exact .inr (by simp)
   ·exact .inl h
  ·exact .inr (List.mem_cons_of_mem _ h)
theorem jap {done:List Nat} {i:Nat}:mem done i=true↔i∈done:=by simp [mem]
theorem jbZ (done:List Nat) (i:Nat):(fun k=>mem (i::done) k)=fun k=>mem done k || k == i:=by
 funext k
 rw [Bool.eq_iff_iff]
 simp [mem,or_comm]
theorem ja9 {l:List Oper} {i:Nat} {o:Oper} (ho:l[i]?=some o) {e:Edge} (he:e∈o.after.toList) (hb:Region.binds .any e=true):e.on∈(ja7 l).getD i []:=by
 rw [jfR ho,je8]
 exact List.mem_flatMap.2 ⟨e,List.mem_filter.2 ⟨he,hb⟩,by simp⟩
theorem jeL {os:List Oper} {rs F:List AV} {L L':Nat→Bool} {s:Nat} (h:∀ k o,os[k]?=some o→o.dst=some s→L k=L' k):∀ m,jea os rs L F s m=jea os rs L' F s m
 | 0=>rfl
 | m+1=>by
  unfold jea
  rw [jeL h m]
  cases ho:os[m]? with
  | none=>simp
  | some o=>
   simp only [Option.bind_some]
   by_cases hd:o.dst=some s
   ·rw [h m o ho hd]
   ·simp [hd]
theorem jb7 {os:List Oper} {rs F:List AV} {L:Nat→Bool} {i:Nat} {r:AV} (hL:L i=false):∀ m,FL os (rs.set i r) L F m=FL os rs L F m
 | 0=>rfl
 | m+1=>by
  unfold FL
  rw [jb7 hL m]
  by_cases hm:m=i
  ·subst hm;simp [hL]
  ·have:(rs.set i r).getD m .any=rs.getD m .any:=by simp [List.getElem?_set,Ne.symm hm]
   rw [this]
section
variable {l:List Oper} (hlt:∀ j o,l[j]?=some o→∀ e∈o.after.toList,Region.binds .any e=true→e.on < j)
 (hcl:∀ i j a b,i < j→l[i]?=some a→l[j]?=some b→je0 l a b=true→i∈(ja7 l).getD j [])
include hlt hcl
theorem jfv {L:Nat→Bool} (hcls:ja8 l L) {i:Nat} {o:Oper} (ho:l[i]?=some o) (hif:L i=false) (hpre:∀ e∈o.after.toList,Region.binds .any e=true→L e.on=true) :
  ∀ k o' s,l[k]?=some o'→o'.dst=some s→(s∈looks l o∨o.dst=some s)→L k=decide (k < i):=by
 intro k o' s hk hs hcase
 have hbefore:=jaK hcls hlt (i+1) i (by omega) o ho hpre
 rcases Nat.lt_trichotomy k i with h | h | h
 ·rw [decide_eq_true h]
  refine hbefore k (hcl k i o' o h hk ho ?_)
  unfold je0
  rw [hs]
  rcases hcase with h5 | h5
  ·simp [h5]
  ·simp [h5]
 ·subst h;simpa using hif
 ·rw [decide_eq_false (by omega)]
  cases hv:L k with
  | false=>rfl
  | true=>
   have hki:i∈(ja7 l).getD k []:=hcl i k o o' h ho hk (by
    unfold je0
    rw [hs]
    rcases hcase with h5 | h5
    ·simp [h5]
    ·simp [h5])
   have:=jaK hcls hlt (k+1) k (by omega) o' hk (fun e he hb=>hcls k o' hk hv e he hb) i hki
   rw [hif] at this;cases this
theorem jdr {rs F:List AV} {L L':Nat→Bool} (hL:ja8 l L) (hL':ja8 l L') {i:Nat} {o:Oper} (ho:l[i]?=some o) (h1:L i=false) (h2:L' i=false)
  (h3:∀ e∈o.after.toList,Region.binds .any e=true→L e.on=true) (h4:∀ e∈o.after.toList,Region.binds .any e=true→L' e.on=true):jgu l.toArray o (FL l rs L F l.length) (FL l rs L' F l.length):=by
 refine jfz (by rw [jaj,jaj]) fun s hs hlen=>?_
 rw [jaj] at hlen
 rw [jcv _ _ _ _ hlen,jcv _ _ _ _ hlen]
 exact (jeL (fun k o' hk hd=>by rw [jfv hlt hcl hL ho h1 h3 k o' s hk hd (.inl hs),jfv hlt hcl hL' ho h2 h4 k o' s hk hd (.inl hs)]) _).symm
theorem jbK {rs F:List AV} {L L2:Nat→Bool} (hL:ja8 l L) {i:Nat} {o:Oper} (ho:l[i]?=some o) (h1:L i=false) (h3:∀ e∈o.after.toList,Region.binds .any e=true→L e.on=true) {r:AV} (hr:rs.getD i .any=r) (hL2:∀ k,L2 k=(L k || k == i)) :
  jaw (FL l rs L F l.length) o.dst r=FL l rs L2 F l.length:=by
 have hil:=(List.getElem?_eq_some_iff.1 ho).1
 refine jix (m':=0) (L':=fun _=>true) (by cases o.dst<;>simp [jaw,jaj]) fun s hs=>?_
 by_cases hd:o.dst=some s
 ·rw [jeb (L:=L) ho hL2 (fun k o' hk hd'=>jfv hlt hcl hL ho h1 h3 k o' s hk hd' (.inr hd)) hd _ hil,hd,hr]
  simp [jaw,jaj,hs]
 ·rw [jec (L:=L) ho hL2 hd,← jcv _ _ _ _ hs]
  cases hd':o.dst with
  | none=>rfl
  | some d=>
   have:d≠s:=fun e=>hd (by rw [hd',e])
   simp [jaw,List.getElem?_set,this]
end
structure Inv (A:AS) (E:List Nat) (P:Program) (l:List Oper) (K:List AV→Hp→Prop) (F:List AV) (L:Nat→Bool) (done rest:List Nat) (rs:List AV) (H:Hp):Prop where
 len:rs.length=l.length
 sub:∀ i,L i=true→i∈done∨i∈E
 clo:ja8 l L
 dclo:ja8 l (mem done)
 ord:jd5 A E l (ja7 l) done rest=true
 walk:jcJ A P l.toArray K (rest.map (atO l)) (FL l rs (mem done) F l.length) H
 wait:∀ i∈done,L i=false→jbn A l i=false∧i < l.length∧∃ D,ja8 l D∧D i=false∧(∀ k,D k=true→k∈done)∧(∀ e∈(atO l i).after.toList,Region.binds .any e=true→D e.on=true)∧
  QV P l.toArray (atO l i) (FL l rs D F l.length) H (rs.getD i .any)∧(jcp (atO l i)=false→∀ H',QV P l.toArray (atO l i) (FL l rs D F l.length) H' (rs.getD i .any))∧(jcP (atO l i)=true→∀ H',HLx A H H'→QV P l.toArray (atO l i) (FL l rs D F l.length) H' (rs.getD i .any))
theorem jdP {l:List Oper} {i:Nat} (hi:i < l.length):l[i]?=some (atO l i):=by simp [atO,hi]
def jbT (P:Program) (l:List Oper):List Nat→Prop
 | []=>True
 | i::E=>(match (atO l i).op with | .alloc t=>(jaG P t).isSome=true | _=>False)∧(atO l i).guard=none∧jbT P l E
theorem jbH {P:Program} {l:List Oper}:∀ {E:List Nat},jbT P l E→∀ i∈E,∃ t zs,(atO l i).op=.alloc t∧jaG P t=some zs∧(atO l i).guard=none
 | [],_,i,hi=>by simp at hi
 | j::E,h,i,hi=>by
  obtain ⟨h1,h2,h3⟩:=h
  rcases List.mem_cons.1 hi with rfl | hi
  ·split at h1
   ·rename_i t e
    obtain ⟨zs,hz⟩:=Option.isSome_iff_exists.1 h1
    exact ⟨t,zs,e,hz,h2⟩
   ·exact h1.elim
  ·exact jbH h3 i hi
def jgI (A:AS) (P:Program) (l:List Oper) (E:List Nat):Prop:=jbT P l E∧∀ i∈E,qcO A (atO l i)=false∧gcO A (atO l i)=false
theorem jf7 {A:AS} {P:Program} {l:List Oper} {E:List Nat} (h:jgI A P l E) {i:Nat} (hi:i∈E):jbn A l i=true∧jcO A (atO l i)=true:=by
 obtain ⟨t,zs,e,_,hg⟩:=jbH h.1 i hi
 simp [jbn,je1,jcO,e,hg,jac,jgt,jdp,(h.2 i hi).1]
def Hid (P:Program) (l:List Oper) (L:Nat→Bool) (done:List Nat) (rs:List AV) (w0 w:NW) (β:Nat→Nat):Prop:=∀ i,L i=true→i ∉ done→
 (∃ t cur,(atO l i).op=.alloc t∧jaG P t=some cur.toList∧rs.getD i .any=.raw (.pointer (some ⟨β i,0,none⟩))∧w.heap[β i]?=some (.cells cur t (0,0))∧w.O (β i)∧w0.heap.size≤β i∧β i < w.heap.size∧∀ j m t s,w.nm j m≠some (.at (β i) t s))∧∀ j,L j=true→j ∉ done→β i=β j→i=j
theorem Hid.ext {P:Program} {l:List Oper} {L:Nat→Bool} {done:List Nat} {rs:List AV} {w0 w w':NW} {β:Nat→Nat} {H H':Hp} (h:Hid P l L done rs w0 w β) (e:Ext w H w' H'):Hid P l L done rs w0 w' β:=fun i h1 h2=>by
 obtain ⟨⟨t,cur,a1,a2,a3,a4,a5,a6,a7,a8⟩,b⟩:=h i h1 h2
 obtain ⟨e1,e2,e3⟩:=e.rest (β i) a7 a5 a8
 exact ⟨⟨t,cur,a1,a2,a3,e1.trans a4,e2,a6,Nat.lt_of_lt_of_le a7 e.size,e3⟩,b⟩
theorem jge {w:NW} {H:Hp} (r:RelW w H) {i b:Nat} {t:TypeId} {cur:Array Value} (hi:H.get i=none) (hb:w.heap[b]?=some (.cells cur t (0,0))) (hO:w.O b) (hlt:b < w.heap.size) (hno:∀ j m t s,w.nm j m≠some (.at b t s)) :
  RelW (w.name i 0 (.at b cur.size 0)) (H.put i (.var t (cur.toList.map .raw)))∧Keep ji7 w (w.name i 0 (.at b cur.size 0))∧RelV (w.name i 0 (.at b cur.size 0)) (.pt i 0 0 0) (.pointer (some ⟨b,0,none⟩)):=by
 have nmE:∀ j n,(w.name i 0 (.at b cur.size 0)).nm j n=if j=i∧n=0 then some (Rz.at b cur.size 0) else w.nm j n:=fun _ _=>rfl
 have kp:Keep ji7 w (w.name i 0 (.at b cur.size 0)):=⟨Nat.le_refl _,fun _ _ h=>⟨rfl,h⟩,fun j n z _ h=>by
  rw [nmE,if_neg]
  ·exact h
  ·rintro ⟨rfl,rfl⟩;rw [r.none hi] at h;cases h⟩
 refine ⟨{ rows:=fun j s hj=>?_,dom:=fun j n z hz=>?_,inj:=fun j n j' n' b' t1 s1 t2 s2 h1 h2=>?_,own:=fun j n b' t1 s1 h=>?_,fin:=r.fin,glob:=r.glob.keep kp },kp,?_⟩
 ·rw [Hp.get_put] at hj
  split at hj
  ·rename_i e;subst e;cases hj
   refine ⟨trivial,.at b cur.size 0,by rw [nmE];exact if_pos ⟨rfl,rfl⟩,rfl,cur,hb,⟨rfl,by show (cur.toList.map AV.raw).length≤_;simp⟩,fun k a v ha hv=>?_⟩
   have ha:(cur.toList.map AV.raw)[k]?=some a:=ha
   simp only [List.getElem?_map,Array.getElem?_toList,hv,Option.map_some,Option.some.injEq] at ha
   subst ha
   exact .raw _
  ·rename_i e
   obtain ⟨h1,z,h2,h3⟩:=r.rows j s hj
   refine ⟨h1,z,by rw [nmE,if_neg (fun h=>e h.1)];exact h2,?_⟩
   cases z with
   | nil=>exact h3
   | «at» b' t' st=>
    obtain ⟨g1,cur',g2,g3,g5⟩:=h3
    exact ⟨g1,cur',g2,g3,fun k a v ha hv=>(g5 k a v ha hv).keep kp (jaC a)⟩
 ·rw [nmE] at hz
  rw [Hp.get_put]
  split at hz
  ·rename_i e;exact ⟨_,by rw [if_pos e.1],by rw [e.2];exact Nat.zero_le _⟩
  ·obtain ⟨r',h1,h2⟩:=r.dom j n z hz
   have e:j≠i:=fun e=>by subst e;rw [hi] at h1;cases h1
   exact ⟨r',by rw [if_neg e];exact h1,h2⟩
 ·rw [nmE] at h1 h2
  split at h1<;>split at h2
  ·rename_i e1 e2;rw [e1.1,e2.1]
  ·cases h1;exact (hno _ _ _ _ h2).elim
  ·cases h2;exact (hno _ _ _ _ h1).elim
  ·exact r.inj _ _ _ _ _ _ _ _ _ h1 h2
 ·rw [nmE] at h
  split at h
  ·cases h;exact hO
  ·exact r.own _ _ _ _ _ h
 ·have:=RelV.pt (w:=w.name i 0 (.at b cur.size 0)) i 0 0 0 b cur.size 0 (NW.name_same _ _ _ _)
  simpa using this
theorem jf9 {w0 w:NW} {H0 H H':Hp} (e:Ext w0 H0 w H) (r:RelW w H) {i b sz:Nat} (hi:H.get i=none) (hb:w0.heap.size≤b) (hB:H'.B=H.B):Ext w0 H0 (w.name i 0 (.at b sz 0)) H':={
 size:=e.size,free:=e.free
 names:=fun j n z hq h=>by
  have:=e.names j n z hq h
  show (if j=i∧n=0 then _ else _)=_
  rw [if_neg]
  ·exact this
  ·rintro ⟨rfl,rfl⟩;rw [r.none hi] at this;cases this
 os:=e.os,tape:=e.tape,output:=e.output
 rest:=fun c hc hO hno=>by
  obtain ⟨e1,e2,e3⟩:=e.rest c hc hO hno
  refine ⟨e1,e2,fun j n t s h=>?_⟩
  have h:(if j=i∧n=0 then some (Rz.at b sz 0) else w.nm j n)=some (.at c t s):=h
  split at h
  ·cases h;omega
  ·exact e3 _ _ _ _ h
 base:=hB.trans e.base }
theorem jfx {os:List Oper} {rs F:List AV} {L:Nat→Bool} {i:Nat} {r:AV}:∀ (m:Nat) (s:Nat) (a:AV),(FL os (rs.set i r) L F m)[s]?=some a→(FL os rs L F m)[s]?=some a∨(a=r∧(FL os rs L F m)[s]?=some (rs.getD i .any)∧i < rs.length)
 | 0=>fun s a h=>.inl h
 | m+1=>fun s a h=>by
  have ih:=jfx (os:=os) (rs:=rs) (F:=F) (L:=L) (i:=i) (r:=r) m
  have hl:(FL os (rs.set i r) L F m).length=(FL os rs L F m).length:=by rw [jaj,jaj]
  unfold FL at h ⊢
  cases hL:L m with
  | false=>simp only [hL,Bool.false_eq_true,if_false] at h ⊢;exact ih s a h
  | true=>
   simp only [hL,if_true] at h ⊢
   cases hd:(os[m]?).bind (·.dst) with
   | none=>rw [hd] at h;exact ih s a h
   | some d=>
    rw [hd] at h
    simp only [jaw] at h ⊢
    rw [List.getElem?_set] at h ⊢
    by_cases e:d=s
    ·subst e
     simp only [if_true] at h ⊢
     rw [hl] at h
     split at h
     ·rename_i hlt
      rw [if_pos hlt]
      simp only [Option.some.injEq] at h
      by_cases hm:i=m
      ·subst hm
       by_cases hi:i < rs.length
       ·refine .inr ⟨?_,rfl,hi⟩
        rw [← h];simp [hi]
       ·refine .inl ?_
        rw [← h];simp [hi,List.getElem?_set]
      ·refine .inl ?_
       rw [← h];simp [List.getElem?_set,hm]
     ·cases h
    ·simp only [if_neg e] at h ⊢;exact ih s a h
section
variable {A:AS} {E:List Nat} {l:List Oper} {K:List AV→Hp→Prop} {F:List AV} (hok:jc3 l=true) (hE:jgI A P l E)
include hok
theorem jc2 {done:List Nat} {i:Nat} (hi:i < l.length) (hd:ja8 l (mem done)) (hp:∀ k∈(ja7 l).getD i [],k∈done):ja8 l (mem (i::done)):=fun j o ho hj e he hb=>by
 rw [jap] at hj ⊢
 rcases List.mem_cons.1 hj with rfl | hj
 ·exact List.mem_cons_of_mem _ (hp _ (ja9 ho he hb))
 ·exact List.mem_cons_of_mem _ (jap.1 (hd j o ho (jap.2 hj) e he hb))
include hE
theorem jgx:∀ (rest:List Nat) {L:Nat→Bool} {done:List Nat} {rs:List AV},Inv A E P l K F L done rest rs H→
  ∃ done' rest' rs',Inv A E P l K F L done' rest' rs' H∧(∀ i r,rest'=i::r→jbn A l i=true)∧FL l rs' L F l.length=FL l rs L F l.length∧rest'.length≤rest.length∧(∀ w0 w β,Hid P l L done rs w0 w β→Hid P l L done' rs' w0 w β)
 | [],L,done,rs,h=>⟨done,[],rs,h,(fun i r e=>by cases e),rfl,Nat.le_refl _,fun _ _ _ h=>h⟩
 | i::rest,L,done,rs,h=>by
  obtain ⟨hlt,hcl⟩:=jbd hok
  cases he:jbn A l i with
  | true=>exact ⟨done,i::rest,rs,h,fun j r e=>by cases e;exact he,rfl,Nat.le_refl _,fun _ _ _ h=>h⟩
  | false=>
   obtain ⟨hp,hni,hil,_,h5⟩:=jaS h.ord
   have ho:=jdP hil
   have hw:=h.walk
   rw [List.map_cons] at hw
   rcases jli hw with ⟨hx,_⟩ | ⟨_,r,q1,q2,q2',q3⟩
   ·unfold jbn at he;rw [he] at hx;cases hx
   have hmi:mem done i=false:=by rw [← Bool.not_eq_true,jap];exact hni
   have hLi:L i=false:=by
    cases e:L i with
    | false=>rfl
    | true=>
     rcases h.sub i e with h6 | h6
     ·exact (hni h6).elim
     ·rw [(jf7 (A:=A) hE h6).1] at he;cases he
   have hpre:∀ e∈(atO l i).after.toList,Region.binds .any e=true→mem done e.on=true:=fun e he hb=>jap.2 (hp _ (ja9 ho he hb))
   have hset:∀ D:Nat→Bool,(∀ k,D k=true→k∈done)→FL l (rs.set i r) D F l.length=FL l rs D F l.length:=fun D hD=>jb7 (by
    cases e:D i with
    | false=>rfl
    | true=>exact (hni (hD i e)).elim) _
   have hget:(rs.set i r).getD i .any=r:=by simp [h.len,hil]
   have hne:∀ j,j≠i→(rs.set i r).getD j .any=rs.getD j .any:=fun j hj=>by simp [List.getElem?_set,Ne.symm hj]
   have hnext:=jbK (rs:=rs.set i r) (F:=F) hlt hcl h.dclo ho hmi hpre hget (L2:=mem (i::done)) (fun k=>by rw [show mem (i::done) k=(fun k=>mem (i::done) k) k from rfl,jbZ])
   rw [hset _ (fun k hk=>jap.1 hk)] at hnext
   have hinv:Inv A E P l K F L (i::done) rest (rs.set i r) H:=by
    refine ⟨by simpa using h.len,fun k hk=>(h.sub k hk).imp_left (List.mem_cons_of_mem _),h.clo,jc2 hok hil h.dclo hp,h5,by rw [← hnext];exact q3,fun j hj hLj=>?_⟩
    rcases List.mem_cons.1 hj with rfl | hj
    ·exact ⟨he,hil,mem done,h.dclo,hmi,fun k hk=>List.mem_cons_of_mem _ (jap.1 hk),hpre,by rw [hset _ (fun k hk=>jap.1 hk),hget];exact q1,fun hd H'=>by rw [hset _ (fun k hk=>jap.1 hk),hget];exact q2 hd H',fun hd H' hle=>by rw [hset _ (fun k hk=>jap.1 hk),hget];exact q2' hd H' hle⟩
    ·obtain ⟨w1,w2,D,w3,w4,w5,w6,w7,w8,w9⟩:=h.wait j hj hLj
     have hji:j≠i:=fun e=>hni (e ▸ hj)
     exact ⟨w1,w2,D,w3,w4,fun k hk=>List.mem_cons_of_mem _ (w5 k hk),w6,by rw [hset _ w5,hne j hji];exact w7,fun hd H'=>by rw [hset _ w5,hne j hji];exact w8 hd H',fun hd H' hle=>by rw [hset _ w5,hne j hji];exact w9 hd H' hle⟩
   obtain ⟨d',r',rs',g1,g2,g3,g4,g5⟩:=jgx rest hinv
   refine ⟨d',r',rs',g1,g2,by rw [g3,jb7 hLi],by simp;omega,fun w0 w β hh=>g5 w0 w β fun k hk1 hk2=>?_⟩
   have hki:k≠i:=fun e=>hk2 (by simp [e])
   obtain ⟨a,b⟩:=hh k hk1 fun hk3=>hk2 (List.mem_cons_of_mem _ hk3)
   rw [hne k hki]
   exact ⟨a,fun j hj1 hj2=>b j hj1 fun hj3=>hj2 (List.mem_cons_of_mem _ hj3)⟩
theorem jhp {L L2:Nat→Bool} {done rest:List Nat} {rs:List AV} {i:Nat} {r:AV} {H':Hp} (h:Inv A E P l K F L done (i::rest) rs H) (hef:jbn A l i=true) (hL2:∀ k,L2 k=(L k || k == i)) (hgrow:jcO A (atO l i)=true→HLx A H H')
  (hbefore:∀ k∈(ja7 l).getD i [],L k=true):∀ j∈i::done,L2 j=false→jbn A l j=false∧j < l.length∧∃ D,ja8 l D∧D j=false∧(∀ k,D k=true→k∈i::done)∧(∀ e∈(atO l j).after.toList,Region.binds .any e=true→D e.on=true)∧
  QV P l.toArray (atO l j) (FL l (rs.set i r) D F l.length) H' ((rs.set i r).getD j .any)∧(jcp (atO l j)=false→∀ H'',QV P l.toArray (atO l j) (FL l (rs.set i r) D F l.length) H'' ((rs.set i r).getD j .any))∧(jcP (atO l j)=true→∀ H'',HLx A H' H''→QV P l.toArray (atO l j) (FL l (rs.set i r) D F l.length) H'' ((rs.set i r).getD j .any)):=by
 intro j hj hLj
 obtain ⟨hp,hne,hel,h4,h5⟩:=jaS h.ord
 have hset:∀ D:Nat→Bool,(∀ k,D k=true→k∈done)→FL l (rs.set i r) D F l.length=FL l rs D F l.length:=fun D hD=>jb7 (by
  cases e:D i with
  | false=>rfl
  | true=>exact (hne (hD i e)).elim) _
 have hgn:∀ j,j≠i→(rs.set i r).getD j .any=rs.getD j .any:=fun j hj=>by simp [List.getElem?_set,Ne.symm hj]
 rw [hL2] at hLj
 obtain ⟨hLj,hji⟩:=Bool.or_eq_false_iff.1 hLj
 have hji:j≠i:=by simpa using hji
 have hj:j∈done:=by rcases List.mem_cons.1 hj with e | h;exact (hji e).elim;exact h
 obtain ⟨w1,w2,D,w3,w4,w5,w6,w7,w8,w9⟩:=h.wait j hj hLj
 have hnow:QV P l.toArray (atO l j) (FL l rs D F l.length) H' (rs.getD j .any):=by
  rcases (h4 hef).2 j hj with h6 | h6 | h6 | h6
  ·rw [w1] at h6;cases h6
  ·exact w8 h6 H'
  ·have:=hbefore j h6;rw [hLj] at this;cases this
  ·exact w9 h6.2 H' (hgrow h6.1)
 refine ⟨w1,w2,D,w3,w4,fun k hk=>List.mem_cons_of_mem _ (w5 k hk),w6,by rw [hset _ w5,hgn j hji];exact hnow,fun hd H''=>by rw [hset _ w5,hgn j hji];exact w8 hd H'',fun hd H'' hle=>?_⟩
 rw [hset _ w5,hgn j hji]
 rcases (h4 hef).2 j hj with h6 | h6 | h6 | h6
 ·rw [w1] at h6;cases h6
 ·exact w8 h6 H''
 ·have:=hbefore j h6;rw [hLj] at this;cases this
 ·exact w9 h6.2 H'' ((hgrow h6.1).trans hle)
theorem jiV {w0:NW} {H0:Hp}:∀ (n:Nat) {L:Nat→Bool} {done rest:List Nat} {rs:List AV} {H:Hp} {w:NW} {tm:Array Value} {β:Nat→Nat},rest.length≤n→Inv A E P l K F L done rest rs H→RelW w H→RelF w (FL l rs L F l.length) tm→Ext w0 H0 w H→Hid P l L done rs w0 w β→
  ∃ done' rest' rs' H' w',NW.toWorld w'=w.toWorld∧Inv A E P l K F L done' rest' rs' H'∧(∀ i r,rest'=i::r→jbn A l i=true∧L i=false)∧RelW w' H'∧RelF w' (FL l rs' L F l.length) tm∧Ext w0 H0 w' H'∧Hid P l L done' rs' w0 w' β
 | n,L,done,rest,rs,H,w,tm,β,hn,h,h1,h2,h3,h4=>by
  obtain ⟨hlt,hcl⟩:=jbd hok
  obtain ⟨d',r',rs',g1,g2,g3,g4,g5⟩:=jgx hok hE rest h
  have g5:=g5 _ _ _ h4
  rw [← g3] at h2
  cases r' with
  | nil=>exact ⟨d',[],rs',H,w,rfl,g1,(fun i r e=>by cases e),h1,h2,h3,g5⟩
  | cons i r=>
   have hef:=g2 i r rfl
   cases hLi:L i with
   | false=>exact ⟨d',i::r,rs',H,w,rfl,g1,(fun j q e=>by cases e;exact ⟨hef,hLi⟩),h1,h2,h3,g5⟩
   | true=>
    obtain ⟨hp,hne,hel,c4,c5⟩:=jaS g1.ord
    obtain ⟨⟨t,cur,a1,a2,a3,a4,a5,a6,a7,a8⟩,a9⟩:=g5 i hLi hne
    have hiE:i∈E:=(g1.sub i hLi).resolve_left hne
    have hgd:(atO l i).guard=none:=by obtain ⟨_,_,_,_,hg⟩:=jbH hE.1 i hiE;exact hg
    have hw:=g1.walk
    rw [List.map_cons] at hw
    unfold jcJ at hw
    rw [hgd] at hw
    simp only at hw
    rw [if_neg (by rw [(hE.2 i hiE).1];exact Bool.false_ne_true),if_neg (by rw [(hE.2 i hiE).2];exact Bool.false_ne_true)] at hw
    obtain ⟨_,hw⟩:=hw
    rw [a1,jeM (by simp [jgt]) (by simp [jdp])] at hw
    simp only [vc,ja5,a2] at hw
    obtain ⟨id,hid,hv⟩:=hw
    have ho:=jdP hel
    obtain ⟨k1,k2,k3⟩:=jge h1 hid a4 a5 a7 a8
    have hmi:mem d' i=false:=by rw [← Bool.not_eq_true,jap];exact hne
    have hpre':∀ e∈(atO l i).after.toList,Region.binds .any e=true→mem d' e.on=true:=fun e he hb=>jap.2 (hp _ (ja9 ho he hb))
    have hget:(rs'.set i (.pt id 0 0 0)).getD i .any=.pt id 0 0 0:=by simp [g1.len,hel]
    have hset:∀ D:Nat→Bool,(∀ k,D k=true→k∈d')→FL l (rs'.set i (.pt id 0 0 0)) D F l.length=FL l rs' D F l.length:=fun D hD=>jb7 (by
     cases e:D i with
     | false=>rfl
     | true=>exact (hne (hD i e)).elim) _
    have hn1:=jbK (rs:=rs'.set i (.pt id 0 0 0)) (F:=F) hlt hcl g1.dclo ho hmi hpre' hget (L2:=mem (i::d')) (fun k=>by rw [show mem (i::d') k=(fun k=>mem (i::d') k) k from rfl,jbZ])
    rw [hset _ (fun k hk=>jap.1 hk)] at hn1
    have hbefore:∀ k∈(ja7 l).getD i [],L k=true:=jaK g1.clo hlt (i+1) i (by omega) _ ho fun e he hb=>g1.clo i _ ho hLi e he hb
    have hinv:Inv A E P l K F L (i::d') r (rs'.set i (.pt id 0 0 0)) (H.put id (.var t (cur.toList.map .raw))):=
     ⟨by simpa using g1.len,fun k hk=>(g1.sub k hk).imp_left (List.mem_cons_of_mem _),g1.clo,jc2 hok hel g1.dclo hp,c5,by rw [← hn1];exact hv,
      jhp hok hE g1 hef (fun k=>by
       by_cases e:k=i
       ·subst e;simp [hLi]
       ·simp [e]) (fun _=>HLx.put hid) hbefore⟩
    have hrel:RelF (w.name id 0 (.at (β i) cur.size 0)) (FL l (rs'.set i (.pt id 0 0 0)) L F l.length) tm:=by
     refine ⟨by rw [jaj];have:=h2.1;rw [jaj] at this;exact this,fun s a v ha hv'=>?_⟩
     rcases jfx l.length s a ha with h6 | ⟨rfl,h6,_⟩
     ·exact (h2.2 s a v h6 hv').keep k2 (jaC a)
     ·have:=h2.2 s _ v h6 hv'
      rw [a3] at this
      have:=jab this
      subst this
      exact k3
    have hhid:Hid P l L (i::d') (rs'.set i (.pt id 0 0 0)) w0 (w.name id 0 (.at (β i) cur.size 0)) β:=fun k hk1 hk2=>by
     have hki:k≠i:=fun e=>hk2 (by simp [e])
     have hk3:k ∉ d':=fun e=>hk2 (List.mem_cons_of_mem _ e)
     obtain ⟨⟨t',cur',b1,b2,b3,b4,b5,b6,b7,b8⟩,b9⟩:=g5 k hk1 hk3
     refine ⟨⟨t',cur',b1,b2,by rw [← b3];simp [List.getElem?_set,Ne.symm hki],b4,b5,b6,b7,fun j m t1 s1 hh=>?_⟩,fun j hj1 hj2=>b9 j hj1 fun e=>hj2 (List.mem_cons_of_mem _ e)⟩
     have hh:(if j=id∧m=0 then some (Rz.at (β i) cur.size 0) else w.nm j m)=some (.at (β k) t1 s1):=hh
     split at hh
     ·simp only [Option.some.injEq,Rz.at.injEq] at hh
      exact hki (a9 k hk1 hk3 hh.1).symm
     ·exact b8 _ _ _ _ hh
    simp only [List.length_cons] at g4
    obtain ⟨n,rfl⟩:∃ k,n=k+1:=⟨n - 1,by omega⟩
    obtain ⟨d2,r2,rs2,H2,w2,x1,x2,x3,x4,x5,x6,x7⟩:=jiV n (by omega) hinv k1 hrel (jf9 h3 h1 hid a6 rfl) hhid
    exact ⟨d2,r2,rs2,H2,w2,x1,x2,x3,x4,x5,x6,x7⟩
theorem jh6 {L:Nat→Bool} {done rest:List Nat} {rs:List AV} (h:Inv A E P l K F L done rest rs H) (hs:∀ i r,rest=i::r→jbn A l i=true∧L i=false) {i:Nat} {o:Oper} (ho:l[i]?=some o) (hi:L i=false) (hpre:∀ e∈o.after.toList,Region.binds .any e=true→L e.on=true)
  {L2:Nat→Bool} (hL2:∀ k,L2 k=(L k || k == i)) (hnE:i∈done∨i ∉ E∨∃ r,rest=i::r) :
  AOp P l.toArray o (FL l rs L F l.length) H fun G' H'=>∃ done' rest' rs',Inv A E P l K F L2 done' rest' rs' H'∧G'=FL l rs' L2 F l.length∧∀ w0 w β,Hid P l L done rs w0 w β→Hid P l L2 done' rs' w0 w β:=by
 obtain ⟨hlt,hcl⟩:=jbd hok
 have hil:=(List.getElem?_eq_some_iff.1 ho).1
 obtain rfl:o=atO l i:=by have:=(jdP hil).symm.trans ho;cases this;rfl
 have hclo2:ja8 l L2:=fun j o' hj hLj e he hb=>by
  rw [hL2] at hLj ⊢
  rcases Bool.or_eq_true_iff.1 hLj with h6 | h6
  ·rw [h.clo j o' hj h6 e he hb];rfl
  ·obtain rfl:j=i:=by simpa using h6
   rw [ho] at hj;cases hj
   rw [hpre e he hb];rfl
 by_cases hd:i∈done
 ·obtain ⟨w1,w2,D,w3,w4,w5,w6,w7,w8,w9⟩:=h.wait i hd hi
  refine (w7 _ (jdr hlt hcl w3 h.clo ho w4 hi w6 hpre)).mono ?_
  rintro G' H' ⟨rfl,rfl⟩
  refine ⟨done,rest,rs,⟨h.len,fun k hk=>?_,hclo2,h.dclo,h.ord,h.walk,fun j hj hLj=>h.wait j hj ?_⟩,jbK hlt hcl h.clo ho hi hpre rfl hL2,fun w0 w β hh k hk1 hk2=>?_⟩
  ·rw [hL2] at hk
   rcases Bool.or_eq_true_iff.1 hk with h6 | h6
   ·exact h.sub k h6
   ·obtain rfl:k=i:=by simpa using h6
    exact .inl hd
  ·rw [hL2] at hLj
   exact (Bool.or_eq_false_iff.1 hLj).1
  ·have hLk:∀ k,L2 k=true→k ∉ done→L k=true:=fun k h1 h2=>by
    rw [hL2] at h1
    rcases Bool.or_eq_true_iff.1 h1 with h6 | h6
    ·exact h6
    ·obtain rfl:k=i:=by simpa using h6
     exact (h2 hd).elim
   obtain ⟨a,b⟩:=hh k (hLk k hk1 hk2) hk2
   exact ⟨a,fun j hj1 hj2=>b j (hLk j hj1 hj2) hj2⟩
 ·-- the next effect
  have hrest:i∈rest:=(jb0 h.ord i hil).resolve_left hd
  obtain ⟨e,rest',rfl⟩:∃ e r,rest=e::r:=by cases rest with | nil=>simp at hrest | cons e r=>exact ⟨e,r,rfl⟩
  obtain ⟨hef,hLe⟩:=hs e rest' rfl
  obtain ⟨hp,hne,hel,h4,h5⟩:=jaS h.ord
  have hbefore:=jaK h.clo hlt (i+1) i (by omega) _ ho hpre
  obtain rfl:i=e:=by
   rcases List.mem_cons.1 hrest with h | hr
   ·exact h
   ·rcases (h4 hef).1 i hr with h6 | h6
    ·have:=hbefore e h6;rw [hLe] at this;cases this
    ·rcases hnE with h7 | h7 | ⟨r,h7⟩
     ·exact (hd h7).elim
     ·exact (h7 h6).elim
     ·cases h7;rfl
  have hmi:mem done i=false:=by rw [← Bool.not_eq_true,jap];exact hne
  have hpre':∀ e∈(atO l i).after.toList,Region.binds .any e=true→mem done e.on=true:=fun e he hb=>jap.2 (hp _ (ja9 ho he hb))
  have hw:=h.walk
  rw [List.map_cons] at hw
  obtain ⟨_,hx⟩:=(jli hw).resolve_right fun ⟨hx,_⟩=>by unfold jbn at hef;rw [hef] at hx;cases hx
  refine (hx _ (jdr hlt hcl h.dclo h.clo ho hmi hi hpre' hpre)).mono ?_
  rintro G' H' ⟨hgrow,r,rfl,hv⟩
  have hset:∀ D:Nat→Bool,(∀ k,D k=true→k∈done)→FL l (rs.set i r) D F l.length=FL l rs D F l.length:=fun D hD=>jb7 (by
   cases e:D i with
   | false=>rfl
   | true=>exact (hne (hD i e)).elim) _
  have hget:(rs.set i r).getD i .any=r:=by simp [h.len,hil]
  have hn1:=jbK (rs:=rs.set i r) (F:=F) hlt hcl h.dclo ho hmi hpre' hget (L2:=mem (i::done)) (fun k=>by rw [show mem (i::done) k=(fun k=>mem (i::done) k) k from rfl,jbZ])
  rw [hset _ (fun k hk=>jap.1 hk)] at hn1
  have hn2:=jbK (rs:=rs.set i r) (F:=F) hlt hcl h.clo ho hi hpre hget hL2
  rw [jb7 hi] at hn2
  refine ⟨i::done,rest',rs.set i r,⟨by simpa using h.len,fun k hk=>?_,hclo2,jc2 hok hil h.dclo hp,h5,by rw [← hn1];exact hv,jhp hok hE h hef hL2 hgrow hbefore⟩,hn2,fun w0 w β hh k hk1 hk2=>?_⟩
  ·rw [hL2] at hk
   rcases Bool.or_eq_true_iff.1 hk with h6 | h6
   ·exact (h.sub k h6).imp_left (List.mem_cons_of_mem _)
   ·obtain rfl:k=i:=by simpa using h6
    simp
  ·have hLk:∀ k,L2 k=true→k ∉ i::done→L k=true∧k ∉ done∧k≠i:=fun k h1 h2=>by
    rw [hL2] at h1
    simp only [List.mem_cons,not_or] at h2
    rcases Bool.or_eq_true_iff.1 h1 with h6 | h6
    ·exact ⟨h6,h2.2,h2.1⟩
    ·exact (h2.1 (by simpa using h6)).elim
   obtain ⟨y1,y2,y3⟩:=hLk k hk1 hk2
   obtain ⟨⟨t,cur,b1,b2,b3,b4⟩,b⟩:=hh k y1 y2
   exact ⟨⟨t,cur,b1,b2,by rw [← b3];simp [List.getElem?_set,Ne.symm y3],b4⟩,fun j hj1 hj2=>b j (hLk j hj1 hj2).1 (hLk j hj1 hj2).2.1⟩
theorem jf8 {L:Nat→Bool} {done rest:List Nat} {rs:List AV} (h:Inv A E P l K F L done rest rs H) {i:Nat} {o:Oper} (ho:l[i]?=some o) (hi:L i=false) (hd:i ∉ done) (hiE:i∈E) (hpre:∀ e∈o.after.toList,Region.binds .any e=true→L e.on=true)
  {L2:Nat→Bool} (hL2:∀ k,L2 k=(L k || k == i)) {w0 w:NW} {H0:Hp} {tm:Array Value} {β:Nat→Nat} (h1:RelW w H) (h2:RelF w (FL l rs L F l.length) tm) (h3:Ext w0 H0 w H) (h4:Hid P l L done rs w0 w β) {Q:Exit→Act→World→Prop} {next:Act→World→Prop}
  (hn:∀ tm' w' rs' β',Inv A E P l K F L2 done rest rs' H→RelW w' H→RelF w' (FL l rs' L2 F l.length) tm'→Ext w0 H0 w' H→Hid P l L2 done rs' w0 w' β'→next ⟨tm',[]⟩ w'.toWorld):jeQ P l.toArray Q o next ⟨tm,[]⟩ w.toWorld:=by
 obtain ⟨hlt,hcl⟩:=jbd hok
 have hil:=(List.getElem?_eq_some_iff.1 ho).1
 obtain rfl:o=atO l i:=by have:=(jdP hil).symm.trans ho;cases this;rfl
 obtain ⟨t,zs,e1,e2,e3⟩:=jbH hE.1 i hiE
 obtain ⟨z,hrun,rfl⟩:=jbQ (w:=w.toWorld) e2
 have hclo2:ja8 l L2:=fun j o' hj hLj e he hb=>by
  rw [hL2] at hLj ⊢
  rcases Bool.or_eq_true_iff.1 hLj with h6 | h6
  ·rw [h.clo j o' hj h6 e he hb];rfl
  ·obtain rfl:j=i:=by simpa using h6
   rw [ho] at hj;cases hj
   rw [hpre e he hb];rfl
 have hget:(rs.set i (.raw (.pointer (some ⟨w.heap.size,0,none⟩)))).getD i .any=.raw (.pointer (some ⟨w.heap.size,0,none⟩)):=by simp [h.len,hil]
 have hne:∀ j,j≠i→∀ r:AV,(rs.set i r).getD j .any=rs.getD j .any:=fun j hj r=>by simp [List.getElem?_set,Ne.symm hj]
 have hset:∀ (r:AV) (D:Nat→Bool),(∀ k,D k=true→k∈done)→FL l (rs.set i r) D F l.length=FL l rs D F l.length:=fun r D hD=>jb7 (by
  cases e:D i with
  | false=>rfl
  | true=>exact (hd (hD i e)).elim) _
 have hn2:=jbK (rs:=rs.set i (.raw (.pointer (some ⟨w.heap.size,0,none⟩)))) (F:=F) hlt hcl h.clo ho hi hpre hget hL2
 rw [jb7 hi] at hn2
 have ex:Ext w H ((w.to (w.alloc (.cells z.cells t))).seize w.heap.size) H:={
  size:=by show w.heap.size≤(w.alloc _).heap.size;simp
  free:=fun b hb hn=>⟨RowKit.Below.heap_alloc w.toWorld _ b hb,fun h=>by
   rcases h with h | h
   ·omega
   ·exact hn h⟩
  names:=fun _ _ _ _ h=>h
  os:=rfl,tape:=rfl,output:=rfl
  rest:=fun b hb hO hno=>⟨RowKit.Below.heap_alloc w.toWorld _ b hb,.inr hO,hno⟩
  base:=rfl }
 have hW:RelW ((w.to (w.alloc (.cells z.cells t))).seize w.heap.size) H:={
  rows:=fun j row hj=>by
   obtain ⟨g1,y,g2,g3⟩:=h1.rows j row hj
   refine ⟨g1,y,g2,g3.ext ex fun b t' s e=>?_⟩
   subst e
   exact RowKit.Below.heap_alloc w.toWorld _ b (h1.lt g2)
  dom:=h1.dom,inj:=h1.inj,glob:=h1.glob.keep ex.toKeep
  own:=fun j n b t' s hh=>.inr (h1.own j n b t' s hh)
  fin:=fun b hb=>by
   show b < (w.alloc _).heap.size
   rcases hb with hh | hh
   ·subst hh;simp
   ·have:=h1.fin b hh;simp;omega }
 have hLk:∀ k,L2 k=true→k≠i→L k=true:=fun k h1 h2=>by
  rw [hL2] at h1
  exact (Bool.or_eq_true_iff.1 h1).resolve_right (by simpa using h2)
 unfold jeQ
 rw [if_pos (by simp [Region.wanted,e3])]
 refine .inl ?_
 have hex:(execOp (Act.mk tm []).eval (atO l i)).run P w.toWorld=.ok (.value (.pointer (some ⟨w.heap.size,0,none⟩))) (w.alloc (.cells z.cells t)):=by
  have:∀ (o:Oper),o.op=.alloc t→(execOp (Act.mk tm []).eval o).run P w.toWorld=.ok (.value (.pointer (some ⟨w.heap.size,0,none⟩))) (w.alloc (.cells z.cells t)):=fun o ho=>by
   obtain ⟨dst,op,ty,pos,after,guard⟩:=o
   simp only at ho
   subst ho
   simp only [execOp,Sem.run_bind,Instr.alloc,hrun,Result.andThen_ok,newVar,newRow]
   simp
  exact this _ e1
 simp only [Oper.wp,hex,Oper.upon]
 rw [Act.put_eq]
 refine hn _ ((w.to (w.alloc (.cells z.cells t))).seize w.heap.size) (rs.set i (.raw (.pointer (some ⟨w.heap.size,0,none⟩)))) (fun k=>if k=i then w.heap.size else β k) ⟨by simpa using h.len,fun k hk=>?_,hclo2,h.dclo,h.ord,by rw [hset _ _ (fun k hk=>jap.1 hk)];exact h.walk,fun j hj hLj=>?_⟩ hW ?_ (h3.trans ex) ?_
 ·rw [hL2] at hk
  rcases Bool.or_eq_true_iff.1 hk with h6 | h6
  ·exact h.sub k h6
  ·obtain rfl:k=i:=by simpa using h6
   exact .inr hiE
 ·rw [hL2] at hLj
  obtain ⟨w1,w2,D,w3,w4,w5,w6,w7,w8,w9⟩:=h.wait j hj (Bool.or_eq_false_iff.1 hLj).1
  have hji:j≠i:=fun e=>hd (e ▸ hj)
  exact ⟨w1,w2,D,w3,w4,w5,w6,by rw [hset _ _ w5,hne j hji];exact w7,fun hd H'=>by rw [hset _ _ w5,hne j hji];exact w8 hd H',fun hd H' hle=>by rw [hset _ _ w5,hne j hji];exact w9 hd H' hle⟩
 ·rw [← hn2]
  exact (h2.ext ex).put _ (.raw _) []
 ·intro k hk1 hk2
  by_cases hki:k=i
  ·subst hki
   refine ⟨⟨t,z.cells,e1,e2,by simp only [if_true];exact hget,by simp only [if_true];exact heap_alloc_new w.toWorld _,by simp only [if_true];exact .inl rfl,by simp only [if_true];exact h3.size,by simp only [if_true];show w.heap.size < (w.alloc _).heap.size;simp,fun j m t' s hh=>?_⟩,fun j hj1 hj2 e=>?_⟩
   ·simp only [if_true] at hh
    have hh:w.nm j m=some (.at w.heap.size t' s):=hh
    have:=h1.lt hh
    omega
   ·by_cases hjk:j=k
    ·exact hjk.symm
    ·exfalso
     obtain ⟨⟨_,_,_,_,_,_,_,_,b7,_⟩,_⟩:=h4 j (hLk j hj1 hjk) hj2
     simp only [if_true,if_neg hjk] at e
     omega
  ·obtain ⟨⟨t',cur,b1,b2,b3,b4,b5,b6,b7,b8⟩,b9⟩:=h4 k (hLk k hk1 hki) hk2
   simp only [if_neg hki]
   refine ⟨⟨t',cur,b1,b2,by rw [hne k hki];exact b3,(RowKit.Below.heap_alloc w.toWorld _ _ b7).trans b4,.inr b5,b6,Nat.lt_of_lt_of_le b7 ex.size,b8⟩,fun j hj1 hj2 e=>?_⟩
   by_cases hji:j=i
   ·subst hji
    simp only [if_true] at e
    omega
   ·simp only [if_neg hji] at e
    exact b9 j (hLk j hj1 hji) hj2 e
theorem jhR {Q:Exit→List AV→Hp→Prop} (hQ:∀ F H,K F H→Q .normal F H) {H0:Hp} (w0:NW) :
  ∀ (fuel:Nat) (listed:Array Bool),listed.size=l.length→(List.range l.length).countP (fun i=>!listed.getD i false)=fuel→
   ∀ H done rest rs (w:NW) tm β,Inv A E P l K F (fun i=>listed.getD i false) done rest rs H→(∀ i r,rest=i::r→jbn A l i=true∧listed.getD i false=false)→
    RelW w H→RelF w (FL l rs (fun i=>listed.getD i false) F l.length) tm→Ext w0 H0 w H→Hid P l (fun i=>listed.getD i false) done rs w0 w β→wpAny P .any l.toArray (Post Q w0 H0) fuel listed ⟨tm,[]⟩ w.toWorld:=by
 obtain ⟨hlt,hcl⟩:=jbd hok
 have fin:∀ (listed:Array Bool) H done rest rs,Inv A E P l K F (fun i=>listed.getD i false) done rest rs H→(∀ i r,rest=i::r→jbn A l i=true∧listed.getD i false=false)→(∀ i,i < l.length→listed.getD i false=true)→∀ (w:NW) tm,RelW w H→RelF w (FL l rs (fun i=>listed.getD i false) F l.length) tm→Ext w0 H0 w H→Post Q w0 H0 .normal ⟨tm,[]⟩ w.toWorld:=by
  intro listed H done rest rs h hs hall w tm h1 h2 h3
  obtain rfl:rest=[]:=by
   cases rest with
   | nil=>rfl
   | cons i r=>
    obtain ⟨_,hni,hil,_⟩:=jaS h.ord
    have h6:=(hs i r rfl).2
    rw [hall i hil] at h6;cases h6
  have e:FL l rs (fun i=>listed.getD i false) F l.length=FL l rs (mem done) F l.length:=by
   have gen:∀ m,m≤l.length→FL l rs (fun i=>listed.getD i false) F m=FL l rs (mem done) F m:=by
    intro m
    induction m with
    | zero=>intro _;rfl
    | succ m ih=>
     intro hm
     have h4:=hall m (by omega)
     have h5:mem done m=true:=jap.2 ((jb0 h.ord m (by omega)).resolve_right (by simp))
     rw [FL,FL,ih (by omega),h4,h5]
   exact gen _ (Nat.le_refl _)
  rw [e] at h2
  exact ⟨tm,_,H,w,rfl,rfl,hQ _ _ h.walk,h1,h2,h3.toB⟩
 intro fuel
 induction fuel with
 | zero=>
  intro listed hsz hcnt H done rest rs w tm β h hs h1 h2 h3 _
  have hall:∀ i,i < l.length→listed.getD i false=true:=fun i hi=>by
   have:=(List.countP_eq_zero.1 hcnt) i (List.mem_range.2 hi)
   simpa using this
  refine ⟨?_,fin listed H done rest rs h hs hall w tm h1 h2 h3⟩
  rw [List.eq_nil_iff_forall_not_mem]
  intro j hj
  obtain ⟨hj0,o,ho,_⟩:=mem_ready.1 hj
  have hjl:j < l.length:=by have:=(Array.getElem?_eq_some_iff.1 ho).1;simpa using this
  have:=hall j hjl
  simp [hsz,hjl] at this hj0
  rw [this] at hj0;cases hj0
 | succ fuel ih=>
  intro listed hsz hcnt H done rest rs w tm β h hs h1 h2 h3 hhid
  refine ⟨fun hnil=>?_,fun i hi=>?_⟩
  ·exfalso
   have hex:∃ i,i < l.length∧listed.getD i false=false:=by
    have hpos:0 < (List.range l.length).countP (fun i=>!listed.getD i false):=by omega
    obtain ⟨i,hi,hp⟩:=List.countP_pos_iff.1 hpos
    exact ⟨i,List.mem_range.1 hi,by simpa using hp⟩
   obtain ⟨i,⟨hi,hf⟩,hleast⟩:=exists_least hex
   have ho:l[i]?=some l[i]:=List.getElem?_eq_getElem hi
   have:i∈Region.ready .any l.toArray listed:=mem_ready.2 ⟨by simp [hsz,hi] at hf ⊢;exact hf,l[i],by simp [hi],fun e he hb=>by
    have h4:=hlt i _ ho e (by simpa using he) hb
    cases hv:listed.getD e.on false with
    | true=>rfl
    | false=>have:=hleast e.on ⟨by omega,hv⟩;omega⟩
   rw [hnil] at this
   cases this
  ·obtain ⟨hi0,o,ho,hpre⟩:=mem_ready.1 hi
   have ho':l[i]?=some o:=by simpa using ho
   have hil:=(List.getElem?_eq_some_iff.1 ho').1
   have hif:listed.getD i false=false:=by simp [hsz,hil] at hi0 ⊢;exact hi0
   have hpre':∀ e∈o.after.toList,Region.binds .any e=true→listed.getD e.on false=true:=fun e he hb=>hpre e (by simpa using he) hb
   have hL':∀ k,(listed.setIfInBounds i true).getD k false=(listed.getD k false || k == i):=fun k=>by
    by_cases hk:k=i
    ·subst hk;simp [hsz,hil]
    ·simp [Array.getElem?_setIfInBounds_ne (Ne.symm hk),hk]
   have hcnt':(List.range l.length).countP (fun k=>!(listed.setIfInBounds i true).getD k false)=fuel:=by
    have:∀ (n:Nat),i < n→(List.range n).countP (fun k=>!(listed.setIfInBounds i true).getD k false)+1=(List.range n).countP (fun k=>!listed.getD k false):=by
     intro n
     induction n with
     | zero=>intro h;omega
     | succ n ihn=>
      intro h
      rw [List.range_succ,List.countP_append,List.countP_append]
      by_cases hn:n=i
      ·subst hn
       have:(List.range n).countP (fun k=>!(listed.setIfInBounds n true).getD k false)=(List.range n).countP (fun k=>!listed.getD k false):=by
        refine List.countP_congr fun k hk=>?_
        rw [hL']
        have:k≠n:=by have:=List.mem_range.1 hk;omega
        simp [this]
       rw [this]
       simp only [List.countP_singleton,hL',hif]
       simp
      ·rw [← ihn (by omega)]
       simp only [List.countP_singleton,hL']
       have:(n == i)=false:=by simpa using hn
       rw [this,Bool.or_false]
       omega
    have:=this l.length hil
    omega
   have go:∀ {d' r' rs' H'} {w':NW} {tm'} {β'},Inv A E P l K F (fun k=>(listed.setIfInBounds i true).getD k false) d' r' rs' H'→RelW w' H'→RelF w' (FL l rs' (fun k=>(listed.setIfInBounds i true).getD k false) F l.length) tm'→Ext w0 H0 w' H'→Hid P l (fun k=>(listed.setIfInBounds i true).getD k false) d' rs' w0 w' β'→
     wpAny P .any l.toArray (Post Q w0 H0) fuel (listed.setIfInBounds i true) ⟨tm',[]⟩ w'.toWorld:=fun {d' r' rs' H' w' tm' β'} k1 k2 k3 k4 k5=>by
    obtain ⟨d2,r2,rs2,H2,w2,x1,x2,x3,x4,x5,x6,x7⟩:=jiV hok hE r'.length (Nat.le_refl _) k1 k2 k3 k4 k5
    rw [← x1]
    exact ih (listed.setIfInBounds i true) (by simpa using hsz) hcnt' H2 d2 r2 rs2 w2 tm' β' x2 x3 x4 x5 x6 x7
   unfold wpOp
   rw [ho]
   by_cases hearly:i ∉ done∧i∈E∧¬ ∃ r,rest=i::r
   ·have:=jf8 hok hE h ho' hif hearly.1 hearly.2.1 hpre' (L2:=fun k=>(listed.setIfInBounds i true).getD k false) hL' h1 h2 h3 hhid (Q:=Post Q w0 H0) (next:=wpAny P .any l.toArray (Post Q w0 H0) fuel (listed.setIfInBounds i true)) fun tm' w' rs' β' k1 k2 k3 k4 k5=>go k1 k2 k3 k4 k5
    exact this
   ·have hnE:i∈done∨i ∉ E∨∃ r,rest=i::r:=by
     by_cases a:i∈done
     ·exact .inl a
     ·by_cases b:i∈E
      ·exact .inr (.inr (Classical.byContradiction fun c=>hearly ⟨a,b,c⟩))
      ·exact .inr (.inl b)
    have hop:=jh6 hok hE h hs ho' hif hpre' (L2:=fun k=>(listed.setIfInBounds i true).getD k false) hL' hnE
    have:=hop w tm (Post Q w0 H0) (wpAny P .any l.toArray (Post Q w0 H0) fuel (listed.setIfInBounds i true)) h1 h2 (by
     rintro tm' w' F' H' ⟨d',r',rs',k1,rfl,k2⟩ g1 g2 g3
     exact go k1 g1 g2 (h3.trans g3) (k2 _ _ _ (hhid.ext g3)))
    exact this
end
theorem jbw (A:AS) (E:List Nat) {id:Nat} {l:List Oper} (ord:List Nat) {F:List AV} {Q:Exit→List AV→Hp→Prop} (hm:P.follows .mixedOrders=true) (hok:jhX A E l ord=true) (hE:jbT P l E) (h:jcJ A P l.toArray (Q .normal) (ord.map (atO l)) F H):AWP P (.region id l.toArray true) Q F H:=fun w tm h1 h2=>by
 simp only [jhX,Bool.and_eq_true,List.all_eq_true,Bool.not_eq_true'] at hok
 obtain ⟨⟨hdr,hord⟩,hqE⟩:=hok
 have hE:jgI A P l E:=⟨hE,hqE⟩
 have hz:∀ i,(Array.replicate l.toArray.size false).getD i false=false:=fun i=>by
  by_cases hi:i < l.length<;>simp [Array.getElem?_replicate,hi]
 refine wp_region_any hm ?_
 have e0:∀ (rs:List AV) (L:Nat→Bool),(∀ i,L i=false)→FL l rs L F l.length=F:=fun rs L hL=>by
  have gen:∀ m,FL l rs L F m=F:=by
   intro m
   induction m with
   | zero=>rfl
   | succ m ih=>rw [FL,hL,if_neg (by simp),ih]
  exact gen _
 have hinv:Inv A E P l (Q .normal) F (fun i=>(Array.replicate l.toArray.size false).getD i false) [] ord (List.replicate l.length .any) H:=
  ⟨by simp,(fun i hi=>by have:=(hz i).symm.trans hi;cases this),(fun j o _ hj=>by have:=(hz j).symm.trans hj;cases this),(fun j o _ hj=>by simp [mem] at hj),hord,
   (by rw [e0 _ _ (fun i=>by simp [mem])];exact h),(fun i hi=>by simp at hi)⟩
 obtain ⟨d',r',rs',k1,k2,k3,_⟩:=jgx hdr hE ord hinv
 refine jhR hdr hE (fun _ _ h=>h) w l.toArray.size (Array.replicate l.toArray.size false) (by simp) (by
  rw [List.countP_eq_length.2 (fun i _=>by rw [hz];rfl)]
  simp) H d' r' rs' (w.to w.drew) tm (fun _=>0) k1 (fun i r e=>⟨k2 i r e,hz i⟩) h1.drew (by rw [e0 _ _ hz];exact h2.ext (Ext.drew w H)) (Ext.drew w H) (fun i hi _=>by have:=(hz i).symm.trans hi;cases this)
end
section
variable {P:Program} {ev:Operand→AV} {H:Hp} {ty:TypeId} {K:AV→Hp→Prop}
@[go_sem] theorem jlX (x:Operand):vcD P ev H ty K (.move x)=vc P ev H ty K (.move x):=(rfl)
@[go_sem] theorem jkl (x:Operand):vcD P ev H ty K (.assign x)=vc P ev H ty K (.assign x):=(rfl)
@[go_sem] theorem jlW (t:TypeId) (x:Operand):vcD P ev H ty K (.load t x)=vc P ev H ty K (.load t x):=(rfl)
@[go_sem] theorem jim (t:TypeId) (x:Operand) (f:Nat):vcD P ev H ty K (.fieldAddr t x f)=vc P ev H ty K (.fieldAddr t x f):=(rfl)
@[go_sem] theorem jln (t:TypeId) (x:Operand) (f:Nat):vcD P ev H ty K (.field t x f)=vc P ev H ty K (.field t x f):=(rfl)
@[go_sem] theorem jjL (x:Operand) (i:Nat):vcD P ev H ty K (.extract x i)=vc P ev H ty K (.extract x i):=(rfl)
@[go_sem] theorem jlm (t:TypeId) (ps:Array (Nat×Operand)):vcD P ev H ty K (.build t ps)=vc P ev H ty K (.build t ps):=(rfl)
@[go_sem] theorem jmJ (t:TypeId) (x y:Operand) (t':TypeId):vcD P ev H ty K (.binOp .lss t x y t')=vc P ev H ty K (.binOp .lss t x y t'):=(rfl)
@[go_sem] theorem jlo (t:TypeId) (a x:Operand):vcD P ev H ty K (.store t a x)=vc P ev H ty K (.store t a x):=(rfl)
@[go_sem] theorem jhN (t:TypeId) (n:Nat) (ps:Array (Nat×Operand)):vcD P ev H ty K (.buildSlice t n ps)=jcj P t n (ps.toList.map fun p=>(p.1,ev p.2)) fun r=>K r H:=(rfl)
end
@[go_sem] theorem jkV {A:AS} {ev:Operand→AV} (t:TypeId) (x:Operand):je7 A ev (.load t x)=jds A (ev x):=(rfl)
@[go_sem] theorem jka {A:AS} {ev:Operand→AV} (t:TypeId) (a x:Operand):je7 A ev (.store t a x)=((A.1.isEmpty || A.2.2.contains 1000000) || jjr A (ev a)):=(rfl)
@[go_sem] theorem jku (A:AS) (i m k j:Nat):jds A (.pt i m k j)=(!A.1.contains i && (decide (1≤j) || !A.1.contains (i+16))):=(rfl)
@[go_sem] theorem jlM (A:AS) (i m k j:Nat):jjr A (.pt i m k j)=A.1.contains i:=(rfl)
@[go_sem] theorem jkW {A:AS} {ev:Operand→AV} (x:Operand):je7 A ev (.move x)=true:=(rfl)
@[go_sem] theorem jjs {A:AS} {ev:Operand→AV} (x:Operand):je7 A ev (.assign x)=true:=(rfl)
@[go_sem] theorem jj7 {A:AS} {ev:Operand→AV} (op:BinOp) (t:TypeId) (x y:Operand) (t':TypeId):je7 A ev (.binOp op t x y t')=true:=(rfl)
@[go_sem] theorem jhH {A:AS} {ev:Operand→AV} (t:TypeId) (x:Operand) (f:Nat):je7 A ev (.fieldAddr t x f)=true:=(rfl)
@[go_sem] theorem jj9 {A:AS} {ev:Operand→AV} (t:TypeId) (x:Operand) (f:Nat):je7 A ev (.field t x f)=true:=(rfl)
@[go_sem] theorem jiL {A:AS} {ev:Operand→AV} (x:Operand) (i:Nat):je7 A ev (.extract x i)=true:=(rfl)
@[go_sem] theorem jj8 {A:AS} {ev:Operand→AV} (t:TypeId) (ps:Array (Nat×Operand)):je7 A ev (.build t ps)=true:=(rfl)
@[go_sem] theorem jgU {A:AS} {ev:Operand→AV} (t:TypeId) (n:Nat) (ps:Array (Nat×Operand)):je7 A ev (.buildSlice t n ps)=true:=(rfl)
@[go_sem] theorem jl4 {A:AS} {P:Program} {ops:Array Oper} {K:List AV→Hp→Prop} (F:List AV) (H:Hp):jcJ A P ops K [] F H=K F H:=(rfl)
@[go_sem] theorem jko {L C D:List Nat} {P:Program} {ops:Array Oper} {K:List AV→Hp→Prop} (op:Op) (ty:TypeId) (pos:String) (after:Array Edge) (rest:List Oper) (F:List AV) (H:Hp) :
  jcJ (L,C,D) P ops K (⟨none,op,ty,pos,after,none⟩::rest) F H=(je7 (L,C,D) (evA F) op=true∧vcD P (evA F) H ty (AP (fun r H'=>jcJ (L,C,D) P ops K rest (jaw F none r) H') .mk) op):=(rfl)
@[go_sem] theorem jkn {L C D:List Nat} {c t:Nat} {P:Program} {ops:Array Oper} {K:List AV→Hp→Prop} (op:Op) (ty:TypeId) (pos:String) (after:Array Edge) (rest:List Oper) (F:List AV) (H:Hp) :
  jcJ (L,c::C,D) P ops K (⟨some t,op,ty,pos,after,none⟩::rest) F H=vIf ((c::C).contains t) (vcQ P (evA F) H (AP1 (fun r=>jcJ (L,c::C,D) P ops K rest (jaw F (some t) r) H) .mk) op)
   (vIf (D.contains t) (vcN P (L,c::C,D) (evA F) H (AP (fun r H'=>jcJ (L,c::C,D) P ops K rest (jaw F (some t) r) H') .mk) op) (je7 (L,c::C,D) (evA F) op=true∧vcD P (evA F) H ty (AP (fun r H'=>jcJ (L,c::C,D) P ops K rest (jaw F (some t) r) H') .mk) op) .mk .mk) .mk .mk:=(rfl)
@[go_sem] theorem jlY {P:Program} {ev:Operand→AV} {H:Hp} {K:AV→Prop} (f:Operand) (as:Array Operand) (ts:Array TypeId):vcQ P ev H K (.call ⟨.value f,as,ts⟩)=∃ r,(jaU P (ev f) (as.toList.map ev) H fun r' H'=>r'=r∧H'=H)∧K r:=(rfl)
def okL (F:List AV):List Operand→Prop
 | []=>True
 | x::l=>(unG (evA F x)).1=true∧okL F l
attribute [go_sem] okL
attribute [go_sem] atO jcj jbT
universe u
attribute [go_sem] List.isEmpty_nil
def jeU (p q:Prop):Prop:=q→p
section
variable {P:Program} {Q:Exit→List AV→Hp→Prop} {F:List AV} {H:Hp}
theorem jhe {id:Nat} {l:List Oper} {q:Prop} (e:vcl P l.toArray (Q .normal) l F H=q):jeU (AWP P (.region id l.toArray false) Q F H) q:=fun h=>jdk (e ▸ h)
theorem jij {id:Nat} {c:Code}:jeU (AWP P (.block id c) Q F H) (AWP P c (jb6 id Q) F H):=jel
theorem jjI {q:Prop} (e:Q .normal F H=q):jeU (AWP P .skip Q F H) q:=fun h=>jfD (e ▸ h)
theorem jjF {id:Nat} {q:Prop} (e:Q (.exit id) F H=q):jeU (AWP P (.exit id) Q F H) q:=fun h=>jfB (e ▸ h)
theorem jlh {q:Prop} (e:Q .ret F H=q):jeU (AWP P .ret Q F H) q:=fun h=>jgA (e ▸ h)
end
section
variable {P:Program} {H:Hp} {K:AV→Hp→Prop}
theorem jii {t:TypeId} {zs:List Value} {q:Prop} (hz:jaG P t=some zs) (e:K (.pt (nx H.l) 0 0 0) (H.put (nx H.l) (.var t (zs.map .raw)))=q):jeU (ja5 P H t K) q:=fun h=>jfq hz (e ▸ h)
theorem jlg {t:TypeId} {x:AV} {q:Prop} (ho:ones x.cells=true) (e:K (.pt (nx H.l) 0 0 0) (H.put (nx H.l) (.var t x.cells))=q):jeU (jiY H t x K) q:=fun h=>jhg ho (e ▸ h)
theorem jik {A:Nat→Prop} {d:Dep A} {q:Prop} (e:A (nx H.l)=q):jeU (jdM H A d) q:=fun h=>jfs (e ▸ h)
theorem jjH {t:TypeId} {sz:Nat} {q:Prop} (h0:0 < sz) (e:K (.rs (nx H.l) 0 sz 0) (H.put (nx H.l) (.vec t sz []))=q):jeU (jfu t sz [] H K) q:=fun h=>jgp h0 (e ▸ h)
theorem jjG {t:TypeId} {sz:Nat} {css:List (List AV)} {q:Prop} (h1:jaV noQ css.flatten=true) (e:K (.sl true sz css []) H=q):jeU (jfu t sz css H K) q:=fun h=>jgo h1 (e ▸ h)
theorem jlf {t:TypeId} {a x:AV} {q:Prop} (e:jkj P t a x H K=q):jeU (jbE P t t a x H K) q:=fun h=>jcx (e ▸ h)
theorem jmG {d:Dep K} {r:AV} {q:Prop} (e:K r H=q):jeU (AP K d r H) q:=fun h=>jhS (e ▸ h)
theorem jle {a b:Prop} (h:a):jeU (a∧b) b:=fun k=>⟨h,k⟩
end
theorem wkA {p q:Prop} (h:q) (e:jeU p q:=by first
 | ((with_reducible apply jhe);first | (simp (disch:=first | omega | assumption | fail) only [go_sem,jaa,W,↓reduceIte,Int.reduceEq,Int.reduceLE,Int.reduceLT,Int.reduceNe,Int.reduceToNat,Nat.reduceMul,Nat.reduceAdd,Nat.reduceLeDiff,Nat.reduceSub,Nat.reduceEqDiff,Nat.reduceBEq,List.nodup_cons,List.nodup_nil,List.mem_cons,List.not_mem_nil,List.mem_nil_iff];rfl) | (simp (disch:=first | omega | assumption | fail) only [go_sem,jaa,↓reduceIte,Int.reduceEq,Int.reduceLE,Int.reduceLT,Int.reduceNe,Int.reduceToNat,Nat.reduceMul,Nat.reduceAdd,Nat.reduceLeDiff,Nat.reduceSub,Nat.reduceEqDiff,Nat.reduceBEq,List.nodup_cons,List.nodup_nil,List.mem_cons,List.not_mem_nil,List.mem_nil_iff];rfl) | rfl | fail)
 | with_reducible exact jij
 | ((with_reducible apply jjF);first | (simp only [go_sem,↓reduceIte,Int.reduceEq,Int.reduceLE,Int.reduceLT,Int.reduceNe,Int.reduceToNat,Nat.reduceMul,Nat.reduceAdd,Nat.reduceLeDiff,Nat.reduceSub,Nat.reduceEqDiff,Nat.reduceBEq,List.nodup_cons,List.nodup_nil,List.mem_cons,List.not_mem_nil,List.mem_nil_iff];rfl) | rfl | fail)
 | ((with_reducible apply jlh);first | (simp only [go_sem,↓reduceIte,Int.reduceEq,Int.reduceLE,Int.reduceLT,Int.reduceNe,Int.reduceToNat,Nat.reduceMul,Nat.reduceAdd,Nat.reduceLeDiff,Nat.reduceSub,Nat.reduceEqDiff,Nat.reduceBEq,List.nodup_cons,List.nodup_nil,List.mem_cons,List.not_mem_nil,List.mem_nil_iff];rfl) | rfl | fail)
 | ((with_reducible apply jjI);first | (simp only [go_sem,↓reduceIte,Int.reduceEq,Int.reduceLE,Int.reduceLT,Int.reduceNe,Int.reduceToNat,Nat.reduceMul,Nat.reduceAdd,Nat.reduceLeDiff,Nat.reduceSub,Nat.reduceEqDiff,Nat.reduceBEq,List.nodup_cons,List.nodup_nil,List.mem_cons,List.not_mem_nil,List.mem_nil_iff];rfl) | rfl | fail)
 | fail):p:=e h
theorem wkB {p q:Prop} (h:q) (e:jeU p q:=by first
 | ((with_reducible apply jlf);first | (simp (disch:=first | omega | assumption | fail) only [go_sem,jaa,W,↓reduceIte,Int.reduceEq,Int.reduceLE,Int.reduceLT,Int.reduceNe,Int.reduceToNat,Nat.reduceMul,Nat.reduceAdd,Nat.reduceLeDiff,Nat.reduceSub,Nat.reduceEqDiff,Nat.reduceBEq,List.nodup_cons,List.nodup_nil,List.mem_cons,List.not_mem_nil,List.mem_nil_iff];rfl) | (simp (disch:=first | omega | assumption | fail) only [go_sem,jaa,↓reduceIte,Int.reduceEq,Int.reduceLE,Int.reduceLT,Int.reduceNe,Int.reduceToNat,Nat.reduceMul,Nat.reduceAdd,Nat.reduceLeDiff,Nat.reduceSub,Nat.reduceEqDiff,Nat.reduceBEq,List.nodup_cons,List.nodup_nil,List.mem_cons,List.not_mem_nil,List.mem_nil_iff];rfl) | rfl | fail)
 | ((with_reducible apply jmG);first | (simp (disch:=first | omega | assumption | fail) only [go_sem,jaa,W,↓reduceIte,Int.reduceEq,Int.reduceLE,Int.reduceLT,Int.reduceNe,Int.reduceToNat,Nat.reduceMul,Nat.reduceAdd,Nat.reduceLeDiff,Nat.reduceSub,Nat.reduceEqDiff,Nat.reduceBEq,List.nodup_cons,List.nodup_nil,List.mem_cons,List.not_mem_nil,List.mem_nil_iff];rfl) | (simp (disch:=first | omega | assumption | fail) only [go_sem,jaa,↓reduceIte,Int.reduceEq,Int.reduceLE,Int.reduceLT,Int.reduceNe,Int.reduceToNat,Nat.reduceMul,Nat.reduceAdd,Nat.reduceLeDiff,Nat.reduceSub,Nat.reduceEqDiff,Nat.reduceBEq,List.nodup_cons,List.nodup_nil,List.mem_cons,List.not_mem_nil,List.mem_nil_iff];rfl) | rfl | fail)
 | ((with_reducible apply jjH);(focus (first | (simp (disch:=first | omega | assumption | fail) only [go_sem,jaa,W,↓reduceIte,Int.reduceEq,Int.reduceLE,Int.reduceLT,Int.reduceNe,Int.reduceToNat,Nat.reduceMul,Nat.reduceAdd,Nat.reduceLeDiff,Nat.reduceSub,Nat.reduceEqDiff,Nat.reduceBEq,List.nodup_cons,List.nodup_nil,List.mem_cons,List.not_mem_nil,List.mem_nil_iff];done) | (simp (disch:=first | omega | assumption | fail) only [go_sem,jaa,↓reduceIte,Int.reduceEq,Int.reduceLE,Int.reduceLT,Int.reduceNe,Int.reduceToNat,Nat.reduceMul,Nat.reduceAdd,Nat.reduceLeDiff,Nat.reduceSub,Nat.reduceEqDiff,Nat.reduceBEq,List.nodup_cons,List.nodup_nil,List.mem_cons,List.not_mem_nil,List.mem_nil_iff];done) | fail));first | (simp (disch:=first | omega | assumption | fail) only [go_sem,jaa,W,↓reduceIte,Int.reduceEq,Int.reduceLE,Int.reduceLT,Int.reduceNe,Int.reduceToNat,Nat.reduceMul,Nat.reduceAdd,Nat.reduceLeDiff,Nat.reduceSub,Nat.reduceEqDiff,Nat.reduceBEq,List.nodup_cons,List.nodup_nil,List.mem_cons,List.not_mem_nil,List.mem_nil_iff];rfl) | (simp (disch:=first | omega | assumption | fail) only [go_sem,jaa,↓reduceIte,Int.reduceEq,Int.reduceLE,Int.reduceLT,Int.reduceNe,Int.reduceToNat,Nat.reduceMul,Nat.reduceAdd,Nat.reduceLeDiff,Nat.reduceSub,Nat.reduceEqDiff,Nat.reduceBEq,List.nodup_cons,List.nodup_nil,List.mem_cons,List.not_mem_nil,List.mem_nil_iff];rfl) | rfl | fail)
 | ((with_reducible apply jjG);(focus (simp only [go_sem]));first | (simp (disch:=first | omega | assumption | fail) only [go_sem,jaa,W,↓reduceIte,Int.reduceEq,Int.reduceLE,Int.reduceLT,Int.reduceNe,Int.reduceToNat,Nat.reduceMul,Nat.reduceAdd,Nat.reduceLeDiff,Nat.reduceSub,Nat.reduceEqDiff,Nat.reduceBEq,List.nodup_cons,List.nodup_nil,List.mem_cons,List.not_mem_nil,List.mem_nil_iff];rfl) | (simp (disch:=first | omega | assumption | fail) only [go_sem,jaa,↓reduceIte,Int.reduceEq,Int.reduceLE,Int.reduceLT,Int.reduceNe,Int.reduceToNat,Nat.reduceMul,Nat.reduceAdd,Nat.reduceLeDiff,Nat.reduceSub,Nat.reduceEqDiff,Nat.reduceBEq,List.nodup_cons,List.nodup_nil,List.mem_cons,List.not_mem_nil,List.mem_nil_iff];rfl) | rfl | fail)
 | ((with_reducible apply jii);(focus (simp only [go_sem];rfl));first | (simp (disch:=first | omega | assumption | fail) only [go_sem,jaa,W,↓reduceIte,Int.reduceEq,Int.reduceLE,Int.reduceLT,Int.reduceNe,Int.reduceToNat,Nat.reduceMul,Nat.reduceAdd,Nat.reduceLeDiff,Nat.reduceSub,Nat.reduceEqDiff,Nat.reduceBEq,List.nodup_cons,List.nodup_nil,List.mem_cons,List.not_mem_nil,List.mem_nil_iff];rfl) | (simp (disch:=first | omega | assumption | fail) only [go_sem,jaa,↓reduceIte,Int.reduceEq,Int.reduceLE,Int.reduceLT,Int.reduceNe,Int.reduceToNat,Nat.reduceMul,Nat.reduceAdd,Nat.reduceLeDiff,Nat.reduceSub,Nat.reduceEqDiff,Nat.reduceBEq,List.nodup_cons,List.nodup_nil,List.mem_cons,List.not_mem_nil,List.mem_nil_iff];rfl) | rfl | fail)
 | ((with_reducible apply jlg);(focus (simp only [go_sem]));first | (simp (disch:=first | omega | assumption | fail) only [go_sem,jaa,W,↓reduceIte,Int.reduceEq,Int.reduceLE,Int.reduceLT,Int.reduceNe,Int.reduceToNat,Nat.reduceMul,Nat.reduceAdd,Nat.reduceLeDiff,Nat.reduceSub,Nat.reduceEqDiff,Nat.reduceBEq,List.nodup_cons,List.nodup_nil,List.mem_cons,List.not_mem_nil,List.mem_nil_iff];rfl) | (simp (disch:=first | omega | assumption | fail) only [go_sem,jaa,↓reduceIte,Int.reduceEq,Int.reduceLE,Int.reduceLT,Int.reduceNe,Int.reduceToNat,Nat.reduceMul,Nat.reduceAdd,Nat.reduceLeDiff,Nat.reduceSub,Nat.reduceEqDiff,Nat.reduceBEq,List.nodup_cons,List.nodup_nil,List.mem_cons,List.not_mem_nil,List.mem_nil_iff];rfl) | rfl | fail)
 | ((with_reducible apply jik);first | (simp (disch:=first | omega | assumption | fail) only [go_sem,jaa,W,↓reduceIte,Int.reduceEq,Int.reduceLE,Int.reduceLT,Int.reduceNe,Int.reduceToNat,Nat.reduceMul,Nat.reduceAdd,Nat.reduceLeDiff,Nat.reduceSub,Nat.reduceEqDiff,Nat.reduceBEq,List.nodup_cons,List.nodup_nil,List.mem_cons,List.not_mem_nil,List.mem_nil_iff];rfl) | (simp (disch:=first | omega | assumption | fail) only [go_sem,jaa,↓reduceIte,Int.reduceEq,Int.reduceLE,Int.reduceLT,Int.reduceNe,Int.reduceToNat,Nat.reduceMul,Nat.reduceAdd,Nat.reduceLeDiff,Nat.reduceSub,Nat.reduceEqDiff,Nat.reduceBEq,List.nodup_cons,List.nodup_nil,List.mem_cons,List.not_mem_nil,List.mem_nil_iff];rfl) | rfl | fail)
 | ((with_reducible apply jle);first | omega | (simp +contextual;done) | (simp +contextual;intros;omega) | fail)
 | fail):p:=e h
theorem S {p q:Prop} (h:q) (e:p=q:=by first | (simp (disch:=first | omega | assumption | fail) only [go_sem,jaa,W,↓reduceIte,Int.reduceEq,Int.reduceLE,Int.reduceLT,Int.reduceNe,Int.reduceToNat,Nat.reduceMul,Nat.reduceAdd,Nat.reduceLeDiff,Nat.reduceSub,Nat.reduceEqDiff,Nat.reduceBEq,List.nodup_cons,List.nodup_nil,List.mem_cons,List.not_mem_nil,List.mem_nil_iff];rfl) | (simp (disch:=first | omega | assumption | fail) only [go_sem,jaa,↓reduceIte,Int.reduceEq,Int.reduceLE,Int.reduceLT,Int.reduceNe,Int.reduceToNat,Nat.reduceMul,Nat.reduceAdd,Nat.reduceLeDiff,Nat.reduceSub,Nat.reduceEqDiff,Nat.reduceBEq,List.nodup_cons,List.nodup_nil,List.mem_cons,List.not_mem_nil,List.mem_nil_iff];rfl) | fail):p:=e ▸ h
theorem jcu {P:Program} {Q:Exit→List AV→Hp→Prop} {F:List AV} {H:Hp} {c:Operand} {x y:Code} {b:Bool} {pt pf:Prop} (ht:pt→AWP P x Q F H) (hf:pf→AWP P y Q F H) (hc:evA F c=.raw (.bool b):=by rfl)
 (et:(b=true)=pt:=by first | (simp only [Int.reduceEq,Int.reduceLE,Int.reduceLT,Int.reduceNe,false_and,and_false,true_and,and_true,or_false,false_or,true_or,or_true,Bool.false_eq_true,Bool.true_eq_false,eq_self,reduceCtorEq,Bool.not_true,Bool.not_false,Bool.and_eq_true,Bool.or_eq_true,Bool.and_eq_false_iff,Bool.or_eq_false_iff,decide_eq_true_eq,decide_eq_false_iff_not,Bool.not_eq_true',Bool.not_eq_false',Int.not_lt,Int.not_le];rfl) | rfl) (ef:(b=false)=pf:=by first | (simp only [Int.reduceEq,Int.reduceLE,Int.reduceLT,Int.reduceNe,false_and,and_false,true_and,and_true,or_false,false_or,true_or,or_true,Bool.false_eq_true,Bool.true_eq_false,eq_self,reduceCtorEq,Bool.not_true,Bool.not_false,Bool.and_eq_true,Bool.or_eq_true,Bool.and_eq_false_iff,Bool.or_eq_false_iff,decide_eq_true_eq,decide_eq_false_iff_not,Bool.not_eq_true',Bool.not_eq_false',Int.not_lt,Int.not_le];rfl) | rfl):AWP P (.cond c x y) Q F H:=jdQ hc (fun h=>ht (et ▸ h)) (fun h=>hf (ef ▸ h))
section
variable {P:Program} {f:FuncId} {args:List AV} {H:Hp} {K:AV→Hp→Prop} {q:Prop}
theorem cp {r0:AV} (hc:jax P f args r0) (k:q) (h0:jae P f=true:=by first | (simp (disch:=first | omega | assumption | fail) only [go_sem,jaa,W,↓reduceIte,Int.reduceEq,Int.reduceLE,Int.reduceLT,Int.reduceNe,Int.reduceToNat,Nat.reduceMul,Nat.reduceAdd,Nat.reduceLeDiff,Nat.reduceSub,Nat.reduceEqDiff,Nat.reduceBEq,List.nodup_cons,List.nodup_nil,List.mem_cons,List.not_mem_nil,List.mem_nil_iff];done) | (simp (disch:=first | omega | assumption | fail) only [go_sem,jaa,↓reduceIte,Int.reduceEq,Int.reduceLE,Int.reduceLT,Int.reduceNe,Int.reduceToNat,Nat.reduceMul,Nat.reduceAdd,Nat.reduceLeDiff,Nat.reduceSub,Nat.reduceEqDiff,Nat.reduceBEq,List.nodup_cons,List.nodup_nil,List.mem_cons,List.not_mem_nil,List.mem_nil_iff];done) | fail) (h2:jaV noQ args=true:=by first | (simp (disch:=first | omega | assumption | fail) only [go_sem,jaa,W,↓reduceIte,Int.reduceEq,Int.reduceLE,Int.reduceLT,Int.reduceNe,Int.reduceToNat,Nat.reduceMul,Nat.reduceAdd,Nat.reduceLeDiff,Nat.reduceSub,Nat.reduceEqDiff,Nat.reduceBEq,List.nodup_cons,List.nodup_nil,List.mem_cons,List.not_mem_nil,List.mem_nil_iff];done) | (simp (disch:=first | omega | assumption | fail) only [go_sem,jaa,↓reduceIte,Int.reduceEq,Int.reduceLE,Int.reduceLT,Int.reduceNe,Int.reduceToNat,Nat.reduceMul,Nat.reduceAdd,Nat.reduceLeDiff,Nat.reduceSub,Nat.reduceEqDiff,Nat.reduceBEq,List.nodup_cons,List.nodup_nil,List.mem_cons,List.not_mem_nil,List.mem_nil_iff];done) | fail) (e:K r0 H=q:=by first | (simp (disch:=first | omega | assumption | fail) only [go_sem,jaa,W,↓reduceIte,Int.reduceEq,Int.reduceLE,Int.reduceLT,Int.reduceNe,Int.reduceToNat,Nat.reduceMul,Nat.reduceAdd,Nat.reduceLeDiff,Nat.reduceSub,Nat.reduceEqDiff,Nat.reduceBEq,List.nodup_cons,List.nodup_nil,List.mem_cons,List.not_mem_nil,List.mem_nil_iff];rfl) | (simp (disch:=first | omega | assumption | fail) only [go_sem,jaa,↓reduceIte,Int.reduceEq,Int.reduceLE,Int.reduceLT,Int.reduceNe,Int.reduceToNat,Nat.reduceMul,Nat.reduceAdd,Nat.reduceLeDiff,Nat.reduceSub,Nat.reduceEqDiff,Nat.reduceBEq,List.nodup_cons,List.nodup_nil,List.mem_cons,List.not_mem_nil,List.mem_nil_iff];rfl) | rfl | fail):jaU P (.raw (.func (.func f) #[] #[])) args H K:=jbC h0 (jbe hc h2 (e ▸ k))
theorem cg {g:Prop} {R:AV→Prop} {A:Prop} {r0:AV} (hc:jax P f args r0) (k:q) (h0:jae P f=true:=by first | (simp (disch:=first | omega | assumption | fail) only [go_sem,jaa,W,↓reduceIte,Int.reduceEq,Int.reduceLE,Int.reduceLT,Int.reduceNe,Int.reduceToNat,Nat.reduceMul,Nat.reduceAdd,Nat.reduceLeDiff,Nat.reduceSub,Nat.reduceEqDiff,Nat.reduceBEq,List.nodup_cons,List.nodup_nil,List.mem_cons,List.not_mem_nil,List.mem_nil_iff];done) | (simp (disch:=first | omega | assumption | fail) only [go_sem,jaa,↓reduceIte,Int.reduceEq,Int.reduceLE,Int.reduceLT,Int.reduceNe,Int.reduceToNat,Nat.reduceMul,Nat.reduceAdd,Nat.reduceLeDiff,Nat.reduceSub,Nat.reduceEqDiff,Nat.reduceBEq,List.nodup_cons,List.nodup_nil,List.mem_cons,List.not_mem_nil,List.mem_nil_iff];done) | fail) (h2:jaV noQ args=true:=by first | (simp (disch:=first | omega | assumption | fail) only [go_sem,jaa,W,↓reduceIte,Int.reduceEq,Int.reduceLE,Int.reduceLT,Int.reduceNe,Int.reduceToNat,Nat.reduceMul,Nat.reduceAdd,Nat.reduceLeDiff,Nat.reduceSub,Nat.reduceEqDiff,Nat.reduceBEq,List.nodup_cons,List.nodup_nil,List.mem_cons,List.not_mem_nil,List.mem_nil_iff];done) | (simp (disch:=first | omega | assumption | fail) only [go_sem,jaa,↓reduceIte,Int.reduceEq,Int.reduceLE,Int.reduceLT,Int.reduceNe,Int.reduceToNat,Nat.reduceMul,Nat.reduceAdd,Nat.reduceLeDiff,Nat.reduceSub,Nat.reduceEqDiff,Nat.reduceBEq,List.nodup_cons,List.nodup_nil,List.mem_cons,List.not_mem_nil,List.mem_nil_iff];done) | fail) (hA:g→A:=by first | exact id | (intro _;exact True.intro) | fail) (e:R r0=q:=by first | (simp (disch:=first | omega | assumption | fail) only [go_sem,jaa,W,↓reduceIte,Int.reduceEq,Int.reduceLE,Int.reduceLT,Int.reduceNe,Int.reduceToNat,Nat.reduceMul,Nat.reduceAdd,Nat.reduceLeDiff,Nat.reduceSub,Nat.reduceEqDiff,Nat.reduceBEq,List.nodup_cons,List.nodup_nil,List.mem_cons,List.not_mem_nil,List.mem_nil_iff];rfl) | (simp (disch:=first | omega | assumption | fail) only [go_sem,jaa,↓reduceIte,Int.reduceEq,Int.reduceLE,Int.reduceLT,Int.reduceNe,Int.reduceToNat,Nat.reduceMul,Nat.reduceAdd,Nat.reduceLeDiff,Nat.reduceSub,Nat.reduceEqDiff,Nat.reduceBEq,List.nodup_cons,List.nodup_nil,List.mem_cons,List.not_mem_nil,List.mem_nil_iff];rfl) | rfl | fail) :
  ∃ r,(g→A∧jaU P (.raw (.func (.func f) #[] #[])) args H fun r' H'=>r'=r∧H'=H)∧R r:=⟨r0,fun hg=>⟨hA hg,jbC h0 (jbe hc h2 ⟨rfl,rfl⟩)⟩,e ▸ k⟩
theorem cg' {g:Prop} {R:AV→Prop} {r0:AV} (hc:jax P f args r0) (k:q) (h0:jae P f=true:=by first | (simp (disch:=first | omega | assumption | fail) only [go_sem,jaa,W,↓reduceIte,Int.reduceEq,Int.reduceLE,Int.reduceLT,Int.reduceNe,Int.reduceToNat,Nat.reduceMul,Nat.reduceAdd,Nat.reduceLeDiff,Nat.reduceSub,Nat.reduceEqDiff,Nat.reduceBEq,List.nodup_cons,List.nodup_nil,List.mem_cons,List.not_mem_nil,List.mem_nil_iff];done) | (simp (disch:=first | omega | assumption | fail) only [go_sem,jaa,↓reduceIte,Int.reduceEq,Int.reduceLE,Int.reduceLT,Int.reduceNe,Int.reduceToNat,Nat.reduceMul,Nat.reduceAdd,Nat.reduceLeDiff,Nat.reduceSub,Nat.reduceEqDiff,Nat.reduceBEq,List.nodup_cons,List.nodup_nil,List.mem_cons,List.not_mem_nil,List.mem_nil_iff];done) | fail) (h2:jaV noQ args=true:=by first | (simp (disch:=first | omega | assumption | fail) only [go_sem,jaa,W,↓reduceIte,Int.reduceEq,Int.reduceLE,Int.reduceLT,Int.reduceNe,Int.reduceToNat,Nat.reduceMul,Nat.reduceAdd,Nat.reduceLeDiff,Nat.reduceSub,Nat.reduceEqDiff,Nat.reduceBEq,List.nodup_cons,List.nodup_nil,List.mem_cons,List.not_mem_nil,List.mem_nil_iff];done) | (simp (disch:=first | omega | assumption | fail) only [go_sem,jaa,↓reduceIte,Int.reduceEq,Int.reduceLE,Int.reduceLT,Int.reduceNe,Int.reduceToNat,Nat.reduceMul,Nat.reduceAdd,Nat.reduceLeDiff,Nat.reduceSub,Nat.reduceEqDiff,Nat.reduceBEq,List.nodup_cons,List.nodup_nil,List.mem_cons,List.not_mem_nil,List.mem_nil_iff];done) | fail) (e:R r0=q:=by first | (simp (disch:=first | omega | assumption | fail) only [go_sem,jaa,W,↓reduceIte,Int.reduceEq,Int.reduceLE,Int.reduceLT,Int.reduceNe,Int.reduceToNat,Nat.reduceMul,Nat.reduceAdd,Nat.reduceLeDiff,Nat.reduceSub,Nat.reduceEqDiff,Nat.reduceBEq,List.nodup_cons,List.nodup_nil,List.mem_cons,List.not_mem_nil,List.mem_nil_iff];rfl) | (simp (disch:=first | omega | assumption | fail) only [go_sem,jaa,↓reduceIte,Int.reduceEq,Int.reduceLE,Int.reduceLT,Int.reduceNe,Int.reduceToNat,Nat.reduceMul,Nat.reduceAdd,Nat.reduceLeDiff,Nat.reduceSub,Nat.reduceEqDiff,Nat.reduceBEq,List.nodup_cons,List.nodup_nil,List.mem_cons,List.not_mem_nil,List.mem_nil_iff];rfl) | rfl | fail) :
  ∃ r,(g→jaU P (.raw (.func (.func f) #[] #[])) args H fun r' H'=>r'=r∧H'=H)∧R r:=⟨r0,fun _=>jbC h0 (jbe hc h2 ⟨rfl,rfl⟩),e ▸ k⟩
end
section
variable {P:Program} {Q:Exit→List AV→Hp→Prop} {F:List AV} {H:Hp}
theorem gR {P:Program} {Q:Exit→List AV→Hp→Prop} {F:List AV} {H:Hp} (id:Nat) {l:Array Oper} {b:Bool} (h:AWP P (.region id l b) Q F H):AWP P (.region id l b) Q F H:=h
theorem dC (id:Nat) {l:List Oper} {q:Prop} (A:AS) (E ord:List Nat) (hm:P.follows .mixedOrders=true) (h:q) (hok:jhX A E l ord=true:=by decide +kernel) (hE:jbT P l E:=by simp only [jbT,atO,List.getD_cons_zero,List.getD_cons_succ,go_sem]) (e:jcJ A P l.toArray (Q .normal) (ord.map (atO l)) F H=q:=by (simp only [List.map_cons,List.map_nil,atO,List.getD_cons_zero,List.getD_cons_succ];first | (simp (disch:=first | omega | assumption | fail) only [go_sem,jaa,W,↓reduceIte,Int.reduceEq,Int.reduceLE,Int.reduceLT,Int.reduceNe,Int.reduceToNat,Nat.reduceMul,Nat.reduceAdd,Nat.reduceLeDiff,Nat.reduceSub,Nat.reduceEqDiff,Nat.reduceBEq,List.nodup_cons,List.nodup_nil,List.mem_cons,List.not_mem_nil,List.mem_nil_iff];rfl) | (simp (disch:=first | omega | assumption | fail) only [go_sem,jaa,↓reduceIte,Int.reduceEq,Int.reduceLE,Int.reduceLT,Int.reduceNe,Int.reduceToNat,Nat.reduceMul,Nat.reduceAdd,Nat.reduceLeDiff,Nat.reduceSub,Nat.reduceEqDiff,Nat.reduceBEq,List.nodup_cons,List.nodup_nil,List.mem_cons,List.not_mem_nil,List.mem_nil_iff];rfl) | rfl | fail)):AWP P (.region id l.toArray true) Q F H:=jbw A E ord hm hok hE (e ▸ h)
theorem dQ (id:Nat) {l:List Oper} {q:Prop} (hm:P.follows .mixedOrders=true) (h:q) (hok:jc3 l=true:=by decide +kernel) (e:jhO P l.toArray H (fun F'=>Q .normal F' H) l F=q:=by first | (simp (disch:=first | omega | assumption | fail) only [go_sem,jaa,W,↓reduceIte,Int.reduceEq,Int.reduceLE,Int.reduceLT,Int.reduceNe,Int.reduceToNat,Nat.reduceMul,Nat.reduceAdd,Nat.reduceLeDiff,Nat.reduceSub,Nat.reduceEqDiff,Nat.reduceBEq,List.nodup_cons,List.nodup_nil,List.mem_cons,List.not_mem_nil,List.mem_nil_iff];rfl) | (simp (disch:=first | omega | assumption | fail) only [go_sem,jaa,↓reduceIte,Int.reduceEq,Int.reduceLE,Int.reduceLT,Int.reduceNe,Int.reduceToNat,Nat.reduceMul,Nat.reduceAdd,Nat.reduceLeDiff,Nat.reduceSub,Nat.reduceEqDiff,Nat.reduceBEq,List.nodup_cons,List.nodup_nil,List.mem_cons,List.not_mem_nil,List.mem_nil_iff];rfl) | rfl | fail):AWP P (.region id l.toArray true) Q F H:=jcY hm hok (e ▸ h)
end
theorem lle {F F':List AV} (e:LLe F F':=by (simp only [go_sem,LLe,Nat.reduceAdd,AV.raw.injEq,Value.int.injEq,Value.slice.injEq,Value.pointer.injEq,AV.rs.injEq];try omega)):LLe F F':=e
theorem jhG {P:Program} {f:FuncId} {fn:Func} {c:Code} {args:List AV} {r:AV} {k:Nat} (hf:P.funcs[f]?=some fn) (hn:fn.ntmps=k) {F:List AV} (h:AWP P c (jhD P fn fun r' l'=>r'=r∧l'=[]) F ⟨[],[]⟩) (hb:fn.body=some c:=by rfl)
 (hF:args++List.replicate (k - args.length) .any=F:=by (simp only [List.length_cons,List.length_nil,Nat.reduceAdd,Nat.reduceSub,List.replicate,List.cons_append,List.nil_append];rfl)):jax P f args r:=jff hf hb (by rw [hn];exact hF) h
section
variable {P:Program} {fn:Func} {F:List AV} {H:Hp} {out:List AV} {e:Exit} {r:AV} {l:List (Nat×Row)}
theorem jhL (rs:List ResultVar) (hv:jaF out=r) (hrs:fn.results.toList=rs:=by rfl) (he:e=.normal∨e=.ret:=by first | exact Or.inr rfl | exact Or.inl rfl | fail) (ho:jdt P H F rs=some out:=by (simp only [go_sem,↓reduceIte,Int.reduceEq,Int.reduceLE,Int.reduceLT,Int.reduceNe,Int.reduceToNat,Nat.reduceMul,Nat.reduceAdd,Nat.reduceLeDiff,Nat.reduceSub,Nat.reduceEqDiff,Nat.reduceBEq,List.nodup_cons,List.nodup_nil,List.mem_cons,List.not_mem_nil,List.mem_nil_iff];rfl)) (hok:jaW P H F rs:=by simp only [go_sem,↓reduceIte,Int.reduceEq,Int.reduceLE,Int.reduceLT,Int.reduceNe,Int.reduceToNat,Nat.reduceMul,Nat.reduceAdd,Nat.reduceLeDiff,Nat.reduceSub,Nat.reduceEqDiff,Nat.reduceBEq,List.nodup_cons,List.nodup_nil,List.mem_cons,List.not_mem_nil,List.mem_nil_iff]) (hl:jgm (jbu H.B) H.l:=by first | (simp (disch:=first | omega | assumption | fail) only [go_sem,jaa,W,↓reduceIte,Int.reduceEq,Int.reduceLE,Int.reduceLT,Int.reduceNe,Int.reduceToNat,Nat.reduceMul,Nat.reduceAdd,Nat.reduceLeDiff,Nat.reduceSub,Nat.reduceEqDiff,Nat.reduceBEq,List.nodup_cons,List.nodup_nil,List.mem_cons,List.not_mem_nil,List.mem_nil_iff];done) | (simp (disch:=first | omega | assumption | fail) only [go_sem,jaa,↓reduceIte,Int.reduceEq,Int.reduceLE,Int.reduceLT,Int.reduceNe,Int.reduceToNat,Nat.reduceMul,Nat.reduceAdd,Nat.reduceLeDiff,Nat.reduceSub,Nat.reduceEqDiff,Nat.reduceBEq,List.nodup_cons,List.nodup_nil,List.mem_cons,List.not_mem_nil,List.mem_nil_iff];done) | fail)
 (hq:(jaF out).all (jeu (jbu H.B))=true:=by first | (simp (disch:=first | omega | assumption | fail) only [go_sem,jaa,W,↓reduceIte,Int.reduceEq,Int.reduceLE,Int.reduceLT,Int.reduceNe,Int.reduceToNat,Nat.reduceMul,Nat.reduceAdd,Nat.reduceLeDiff,Nat.reduceSub,Nat.reduceEqDiff,Nat.reduceBEq,List.nodup_cons,List.nodup_nil,List.mem_cons,List.not_mem_nil,List.mem_nil_iff];done) | (simp (disch:=first | omega | assumption | fail) only [go_sem,jaa,↓reduceIte,Int.reduceEq,Int.reduceLE,Int.reduceLT,Int.reduceNe,Int.reduceToNat,Nat.reduceMul,Nat.reduceAdd,Nat.reduceLeDiff,Nat.reduceSub,Nat.reduceEqDiff,Nat.reduceBEq,List.nodup_cons,List.nodup_nil,List.mem_cons,List.not_mem_nil,List.mem_nil_iff];done) | fail) (h2:jbo (jbu H.B) H.l=l:=by first | rfl | (first | (simp (disch:=first | omega | assumption | fail) only [go_sem,jaa,W,↓reduceIte,Int.reduceEq,Int.reduceLE,Int.reduceLT,Int.reduceNe,Int.reduceToNat,Nat.reduceMul,Nat.reduceAdd,Nat.reduceLeDiff,Nat.reduceSub,Nat.reduceEqDiff,Nat.reduceBEq,List.nodup_cons,List.nodup_nil,List.mem_cons,List.not_mem_nil,List.mem_nil_iff];done) | (simp (disch:=first | omega | assumption | fail) only [go_sem,jaa,↓reduceIte,Int.reduceEq,Int.reduceLE,Int.reduceLT,Int.reduceNe,Int.reduceToNat,Nat.reduceMul,Nat.reduceAdd,Nat.reduceLeDiff,Nat.reduceSub,Nat.reduceEqDiff,Nat.reduceBEq,List.nodup_cons,List.nodup_nil,List.mem_cons,List.not_mem_nil,List.mem_nil_iff];done) | fail) | (simp only [go_sem,↓reduceIte,Int.reduceEq,Int.reduceLE,Int.reduceLT,Int.reduceNe,Int.reduceToNat,Nat.reduceMul,Nat.reduceAdd,Nat.reduceLeDiff,Nat.reduceSub,Nat.reduceEqDiff,Nat.reduceBEq,List.nodup_cons,List.nodup_nil,List.mem_cons,List.not_mem_nil,List.mem_nil_iff];rfl) | fail):jhD P fn (fun r' l'=>r'=r∧l'=l) e F H:=jeE rs hrs he ho hok hl (ji0 hv hq) h2
theorem jnY (rs:List ResultVar) (hv:VTo (jbu H.B) H (jaF out) r) (hrs:fn.results.toList=rs:=by rfl) (he:e=.normal∨e=.ret:=by first | exact Or.inr rfl | exact Or.inl rfl | fail) (ho:jdt P H F rs=some out:=by (simp only [go_sem,↓reduceIte,Int.reduceEq,Int.reduceLE,Int.reduceLT,Int.reduceNe,Int.reduceToNat,Nat.reduceMul,Nat.reduceAdd,Nat.reduceLeDiff,Nat.reduceSub,Nat.reduceEqDiff,Nat.reduceBEq,List.nodup_cons,List.nodup_nil,List.mem_cons,List.not_mem_nil,List.mem_nil_iff];rfl)) (hok:jaW P H F rs:=by simp only [go_sem,↓reduceIte,Int.reduceEq,Int.reduceLE,Int.reduceLT,Int.reduceNe,Int.reduceToNat,Nat.reduceMul,Nat.reduceAdd,Nat.reduceLeDiff,Nat.reduceSub,Nat.reduceEqDiff,Nat.reduceBEq,List.nodup_cons,List.nodup_nil,List.mem_cons,List.not_mem_nil,List.mem_nil_iff]) (hl:jgm (jbu H.B) H.l:=by first | (simp (disch:=first | omega | assumption | fail) only [go_sem,jaa,W,↓reduceIte,Int.reduceEq,Int.reduceLE,Int.reduceLT,Int.reduceNe,Int.reduceToNat,Nat.reduceMul,Nat.reduceAdd,Nat.reduceLeDiff,Nat.reduceSub,Nat.reduceEqDiff,Nat.reduceBEq,List.nodup_cons,List.nodup_nil,List.mem_cons,List.not_mem_nil,List.mem_nil_iff];done) | (simp (disch:=first | omega | assumption | fail) only [go_sem,jaa,↓reduceIte,Int.reduceEq,Int.reduceLE,Int.reduceLT,Int.reduceNe,Int.reduceToNat,Nat.reduceMul,Nat.reduceAdd,Nat.reduceLeDiff,Nat.reduceSub,Nat.reduceEqDiff,Nat.reduceBEq,List.nodup_cons,List.nodup_nil,List.mem_cons,List.not_mem_nil,List.mem_nil_iff];done) | fail)
 (h2:jbo (jbu H.B) H.l=l:=by first | rfl | (first | (simp (disch:=first | omega | assumption | fail) only [go_sem,jaa,W,↓reduceIte,Int.reduceEq,Int.reduceLE,Int.reduceLT,Int.reduceNe,Int.reduceToNat,Nat.reduceMul,Nat.reduceAdd,Nat.reduceLeDiff,Nat.reduceSub,Nat.reduceEqDiff,Nat.reduceBEq,List.nodup_cons,List.nodup_nil,List.mem_cons,List.not_mem_nil,List.mem_nil_iff];done) | (simp (disch:=first | omega | assumption | fail) only [go_sem,jaa,↓reduceIte,Int.reduceEq,Int.reduceLE,Int.reduceLT,Int.reduceNe,Int.reduceToNat,Nat.reduceMul,Nat.reduceAdd,Nat.reduceLeDiff,Nat.reduceSub,Nat.reduceEqDiff,Nat.reduceBEq,List.nodup_cons,List.nodup_nil,List.mem_cons,List.not_mem_nil,List.mem_nil_iff];done) | fail) | (simp only [go_sem,↓reduceIte,Int.reduceEq,Int.reduceLE,Int.reduceLT,Int.reduceNe,Int.reduceToNat,Nat.reduceMul,Nat.reduceAdd,Nat.reduceLeDiff,Nat.reduceSub,Nat.reduceEqDiff,Nat.reduceBEq,List.nodup_cons,List.nodup_nil,List.mem_cons,List.not_mem_nil,List.mem_nil_iff];rfl) | fail):jhD P fn (fun r' l'=>r'=r∧l'=l) e F H:=jeE rs hrs he ho hok hl hv h2
end
end Go.Gd
