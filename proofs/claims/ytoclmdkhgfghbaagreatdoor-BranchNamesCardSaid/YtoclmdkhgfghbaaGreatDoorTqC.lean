/- Names of branches: of letters and digits. The law of branches: the example, reckoned; names. The law of branches: the example, reckoned: the machine. No conditions. -/
import Derived.Test.YtoclmdkhgfghbaaGreatDoorXvE
import Derived.Test.YtoclmdkhgfghbaaGreatDoorGdT
import Derived.Test.YtoclmdkhgfghbaaGreatDoorShelf
import Derived.Test.YtoclmdkhgfghbaaGreatDoorGdR
import Derived.Laws.RangeAny
import Derived.Laws.RangeString
set_option linter.all false
namespace Go.Gd
open Go
theorem jcD {P:Program} {f:FuncId} {args:List AV} {r:AV} (vals:Array Value) (v:Value) (ha:∀ (w:NW) vs,RelF w args vs→vs=vals) (hr:∀ w:NW,RelV w r v) (h:∀ w:World,Calls P f vals w fun e w'=>e=.returned v∧RowKit.Below w.heap.size w w'):jax P f args r:=by
 intro w vs h1 h2
 have hvs:=ha w vs h2
 subst hvs
 refine (h w.toWorld).mono ?_
 rintro e W ⟨rfl,hb⟩
 have ex:Ext w (entry []) (w.to W) (entry []):={ size:=hb.size,free:=fun b hb' hO=>⟨hb.block b hb',hO⟩,names:=fun _ _ _ _ h=>h,os:=hb.os,tape:=hb.tape,output:=hb.output,rest:=fun b hb' hO hno=>⟨hb.block b hb',hO,hno⟩,base:=rfl }
 refine ⟨v,r,entry [],w.to W,rfl,rfl,⟨rfl,rfl⟩,{ rows:=fun i row hi=>(by cases hi),dom:=h1.dom,inj:=h1.inj,own:=h1.own,glob:=h1.glob.keep ex.toKeep,fin:=fun b hb'=>Nat.lt_of_lt_of_le (h1.fin b hb') hb.size },hr _,ex.toB⟩
theorem jif {w:NW} {a b:AV} {vs:Array Value} (h:RelF w [a,b] vs):∃ x y,vs=#[x,y]∧RelV w a x∧RelV w b y:=by
 obtain ⟨hl,hg⟩:=h
 obtain ⟨l⟩:=vs
 match l,hl with
 | [x,y],_=>exact ⟨x,y,rfl,hg 0 a x rfl rfl,hg 1 b y rfl rfl⟩
theorem jhb {w:NW} {a:AV} {vs:Array Value} (h:RelF w [a] vs):∃ x,vs=#[x]∧RelV w a x:=by
 obtain ⟨hl,hg⟩:=h
 obtain ⟨l⟩:=vs
 match l,hl with
 | [x],_=>exact ⟨x,rfl,hg 0 a x rfl rfl⟩
theorem jhV {P:Program} {f:FuncId} {avs:List AV} {v:Value} {args:Array Value} {W:World} (hg:Glob (n0 W)) (h:jax P f avs (.raw v)) (ha:RelL (n0 W) avs args.toList):Calls P f args W fun e W'=>e=.returned v∧RowKit.Below W.heap.size W W':=by
 refine (h (n0 W) args (jhc W hg) ⟨by rw [ha.1];simp,fun i a v h1 h2=>ha.2 i a v h1 (by rw [Array.getElem?_toList];exact h2)⟩).mono ?_
 rintro e w' ⟨v,r,H',w2,rfl,rfl,⟨rfl,_⟩,_,g2,g3⟩
 have:=jab g2
 subst this
 exact ⟨rfl,⟨g3.os,g3.tape,g3.output,g3.size,fun k hk=>(g3.free k hk (fun h=>h)).1⟩⟩
def jbz (r:Nat):Bool:=(decide (97≤r) && decide (r≤122)) || (decide (48≤r) && decide (r≤57))
def jgD (r:Nat):Bool:=!(jbz r)
def jby (s:ByteArray):Bool:=decide (1≤s.size) && decide (s.size≤8) && s.data.toList.all fun b=>jbz b.toNat
theorem jfK (s:ByteArray):∀ f pos,s.size≤pos+f→(Lib.idxFuncFrom jgD true s f pos < 0↔∀ k (h:k < s.size),pos≤k→jbz (s[k]'h).toNat=true)
 | 0,pos,h=>by
  unfold Lib.idxFuncFrom
  exact ⟨fun _ k hk hp=>by omega,fun _=>by omega⟩
 | f+1,pos,h=>by
  unfold Lib.idxFuncFrom
  by_cases hp:pos < s.size
  ·rw [if_pos hp]
   by_cases ha:(s[pos]'hp).toNat < 128
   ·rw [decode_ascii s pos hp ha]
    by_cases hn:jbz (s[pos]'hp).toNat=true
    ·rw [if_neg (by unfold jgD;rw [hn];decide),jfK s f (pos+1) (by omega)]
     constructor
     ·intro h1 k hk hpk
      by_cases e:k=pos
      ·subst e;exact hn
      ·exact h1 k hk (by omega)
     ·intro h1 k hk hpk
      exact h1 k hk (by omega)
    ·rw [if_pos (by unfold jgD;simpa using hn)]
     exact ⟨fun h1=>by omega,fun h1=>(hn (h1 pos hp (Nat.le_refl _))).elim⟩
   ·obtain ⟨h1,h2⟩:=decode_high s pos hp (by omega)
    have hb:jgD (Utf8.decode s pos).1=true:=by unfold jgD jbz;simp;omega
    rw [if_pos hb]
    refine ⟨fun h1=>by omega,fun h3=>?_⟩
    have:=h3 pos hp (Nat.le_refl _)
    unfold jbz at this
    simp at this
    omega
  ·rw [if_neg hp]
   exact ⟨fun _ k hk hp'=>by omega,fun _=>by omega⟩
theorem jjp (s:ByteArray):decide (0≤Lib.idxFunc jgD true s)=!(s.data.toList.all fun b=>jbz b.toNat):=by
 have h:=jfK s s.size 0 (by omega)
 unfold Lib.idxFunc
 have e:(s.data.toList.all fun b=>jbz b.toNat)=true↔∀ k (h:k < s.size),0≤k→jbz (s[k]'h).toNat=true:=by
  rw [List.all_eq_true]
  constructor
  ·intro h k hk _
   exact h _ (by
    have:s[k]=s.data.toList[k]'(by simpa using hk):=by simp [ByteArray.getElem_eq_getElem_data]
    rw [this];exact List.getElem_mem _)
  ·intro h b hb
   obtain ⟨k,hk,rfl⟩:=List.getElem_of_mem hb
   have:=h k (by simpa using hk) (Nat.zero_le _)
   simpa [ByteArray.getElem_eq_getElem_data] using this
 by_cases hA:(s.data.toList.all fun b=>jbz b.toNat)=true
 ·rw [hA]
  have:=h.2 (e.1 hA)
  simp;omega
 ·have hn:¬ Lib.idxFuncFrom jgD true s s.size 0 < 0:=fun h1=>hA (e.2 (h.1 h1))
  rw [Bool.eq_false_iff.2 hA]
  simp;omega
end Go.Gd
namespace Go.Proofs.YtoclmdkhgfghbaaGreatDoor
open Go Go.Gd
set_option maxHeartbeats 4000000
set_option maxRecDepth 10000
abbrev qS (s:ByteArray):AV:=.raw (.string s)
abbrev qB (b:Bool):AV:=.raw (.bool b)
theorem jjQ (r:Nat) (hr:r≤1114111):jax Tryz.prog 18 [.raw (.int .i32 (r:Int))] (qB (jgD r)):=by
 have e:jgD r=((decide ((r:Int) < 97) || decide (122 < (r:Int))) && (decide ((r:Int) < 48) || decide (57 < (r:Int)))):=by
  unfold jgD jbz
  by_cases h1:(r:Int) < 97<;>by_cases h2:122 < (r:Int)<;>by_cases h3:(r:Int) < 48<;>by_cases h4:57 < (r:Int)<;>simp [h1,h2,h3,h4]<;>omega
 rw [e]
 by_cases h1:(r:Int) < 97<;>by_cases h2:122 < (r:Int)<;>by_cases h3:(r:Int) < 48<;>by_cases h4:57 < (r:Int)<;>(try omega)
 all_goals
  refine jhG Tryz.func18 Tryz.ntmps18 ?_
  (have W:=And.intro h1 (And.intro h2 (And.intro h3 (h4)));repeat' (first|refine jat fun K hK=>?_|refine wkA ?_|(refine hK _ _ ?_;clear hK K)|(refine jcu (fun hc=>?_) (fun hc=>?_)<;>first | contradiction | (exfalso;omega) | skip)|refine wkB ?_|exact True.intro|(clear hK K)));all_goals (try clear W)
  (refine jhL [.tmp 2] ?_;try simp only [go_sem])
  simp [h1,h2,h3,h4]
theorem jf6 (s:ByteArray):jax Tryz.prog 19 [qS s,.raw (.func (.func 18) #[] #[])] (qB (!(s.data.toList.all fun b=>jbz b.toNat))):=by
 rw [← jjp]
 refine jcD #[.string s,.func (.func 18) #[] #[]] _ ?_ (fun w=>.raw _) fun w=>?_
 ·intro w vs h
  obtain ⟨x,y,rfl,h1,h2⟩:=jif h
  rw [jab h1,jab h2]
 ·refine Tryz.strings_ContainsFunc_grows _ #[] (fun args w=>by kernel_rfl) jgD s w fun W x hx hb=>?_
  exact jhV (fun _ _ h=>(by cases h)) (jjQ x hx) (jfS (.raw _))
abbrev qI (n:Int):AV:=.raw (.int .i64 n)
abbrev nl:AV:=.raw (.slice none 0 0)
theorem jdB (s:ByteArray):jax Tryz.prog 8 [qS s] (qB (jby s)):=by
 have hcf:=jf6 s
 generalize hA:(s.data.toList.all fun b=>jbz b.toNat)=A at hcf
 have e:jby s=(decide (1≤(s.size:Int)) && decide ((s.size:Int)≤8) && A):=by
  unfold jby
  rw [hA]
  congr 2
  ·simp;omega
  ·simp;omega
 rw [e]
 clear hA e
 cases A<;>by_cases h1:1≤(s.size:Int)<;>by_cases h2:(s.size:Int)≤8<;>(try omega)
 all_goals
  refine jhG Tryz.func8 Tryz.ntmps8 ?_
  (have W:=And.intro h1 (h2);repeat' (first|refine jat fun K hK=>?_|refine wkA ?_|(refine hK _ _ ?_;clear hK K)|(refine jcu (fun hc=>?_) (fun hc=>?_)<;>first | contradiction | (exfalso;omega) | skip)|(first | refine cg (hcf) ?_ | refine cg' (hcf) ?_)|refine cq (hcf) ?_|refine ⟨qB true,?_⟩|refine wkB ?_|exact True.intro|(clear hK K)));all_goals (try clear W)
  (refine jhL [.tmp 2] ?_;try simp only [go_sem])
  try simp [h1,h2]
theorem jme:jax Tryz.prog 166 [qS (⟨#[49]⟩:ByteArray)] (.tup [qI 1,.raw .nilIface]):=by
 refine jcD #[.string (⟨#[49]⟩:ByteArray)] (.tuple #[.int .i64 1,.nilIface]) (fun w vs h=>?_) (fun w=>?_) fun w=>?_
 ·obtain ⟨x,rfl,h1⟩:=jhb h
  rw [jab h1]
 ·exact .tup _ _ rfl fun i a v ha hv=>by
   match i with
   | 0=>simp at ha hv;subst ha hv;exact .raw _
   | 1=>simp at ha hv;subst ha hv;exact .raw _
   | i+2=>simp at ha
 ·refine (Tryz.strconv_Atoi_ok (⟨#[49]⟩:ByteArray) (by decide) 1 (by decide +kernel) w).mono ?_
  rintro e W ⟨rfl,hW⟩
  refine ⟨rfl,?_⟩
  rcases hW with rfl | ⟨t,rfl⟩
  ·exact RowKit.Below.refl _ _
  ·exact Lib.bytesWorld_below _ _ _
def xT:XT:=[(166,[qS (⟨#[49]⟩:ByteArray)],.tup [qI 1,.raw .nilIface]),(8,[qS (⟨#[98]⟩:ByteArray)],qB true)]
def xHl:List (FuncId×Nat×Bool×List Nat×List Nat×List Nat×List Nat):=[(6,3,false,[],[21,24],[],[0,2,3,1,4,5]),(6,4,false,[],[30],[],[0,1,2,3,6,7,4,5,8,9]),(6,8,false,[],[45,50],[],[0,1,2,3,5,6,7,4,8,9,10,11,12,13]),(9,1,false,[],[11,12],[],[]),(15,1,false,[],[14,16],[],[0,1,2,3,5,4,6,7,8,9,10,11]),(20,2,false,[],[16],[10],[0,1,3,4,5,6,7,8,2,9,10,11]),(20,6,true,[],[36,1000000],[],[]),(31,1,false,[],[14],[],[0,1,3,2,4,5,6]),(32,1,false,[],[11,20],[27],[0,1,2,3,5,6,7,8,9,10,11,12,14,15,16,17,18,19,20,21,22,23,24,25,4,13,26,27,28]),(32,8,false,[],[79,81],[],[]),(33,1,false,[],[9,10],[],[]),(36,5,true,[],[44,1000000],[],[]),(50,1,false,[],[6,7],[],[]),(76,0,false,[],[32],[],[]),(80,10,true,[],[72],[],[]),(100,10,false,[47],[],[],[]),(101,5,true,[],[24],[],[0,1,2,3,4,5,7,6,8,9,10,11]),(101,14,false,[70],[],[],[]),(102,4,true,[],[26,1000000],[],[]),(102,8,true,[44,51],[49],[],[]),(102,12,true,[73],[78],[],[0,1,2,3,4,5,6,7,8,9,10,11,14,12,13,15,16]),(102,16,true,[],[97],[],[]),(103,10,false,[35],[],[],[]),(105,9,true,[73],[72,1000000],[],[]),(124,3,false,[12],[],[],[]),(133,4,false,[28],[],[],[]),(151,0,false,[],[13],[],[0,1,2,3,4,5,6,7,9,10,11,12,13,8,14,15]),(178,1,false,[],[7],[],[0,1,3,2,4,5,6]),(179,1,false,[],[7],[],[0,1,3,2,4,5,6]),(205,6,true,[],[56],[],[]),(209,3,false,[34],[],[],[]),(5,8,true,[],[],[],[]),(10,12,true,[],[],[],[]),(11,14,true,[],[],[],[])]
def xH:XH:=fun f i=>(xHl.find? fun x=>x.1 == f && x.2.1 == i).map fun x=>x.2.2
theorem jcQ:jhP Tryz.prog xT:=⟨⟨by kernel_rfl,jme⟩,⟨by kernel_rfl,by have:=jdB (⟨#[98]⟩:ByteArray);rwa [show jby (⟨#[98]⟩:ByteArray)=true by decide] at this⟩,trivial⟩
def jm9:AV:=.sl false 3 [[(qI 4),(qS (⟨#[102,110]⟩:ByteArray)),(qI 0)],[(qI 3),(qS (⟨#[109,97,105,110]⟩:ByteArray)),(qI 3)],[(qI 5),(qS (⟨#[40]⟩:ByteArray)),(qI 7)],[(qI 5),(qS (⟨#[41]⟩:ByteArray)),(qI 8)],[(qI 5),(qS (⟨#[123]⟩:ByteArray)),(qI 9)],[(qI 4),(qS (⟨#[108,101,116]⟩:ByteArray)),(qI 10)],[(qI 3),(qS (⟨#[97]⟩:ByteArray)),(qI 14)],[(qI 5),(qS (⟨#[61]⟩:ByteArray)),(qI 15)],[(qI 1),(qS (⟨#[49]⟩:ByteArray)),(qI 16)],[(qI 5),(qS (⟨#[59]⟩:ByteArray)),(qI 17)],[(qI 4),(qS (⟨#[112,114,105,110,116]⟩:ByteArray)),(qI 18)],[(qI 3),(qS (⟨#[97]⟩:ByteArray)),(qI 24)],[(qI 5),(qS (⟨#[59]⟩:ByteArray)),(qI 25)],[(qI 5),(qS (⟨#[125]⟩:ByteArray)),(qI 26)],[(qI 0),(qS (⟨#[]⟩:ByteArray)),(qI 27)]] []
def jmA:AV:=.sl false 5 [[(qI 1),(qI 1),(qI 1),(qS (⟨#[]⟩:ByteArray)),nl],[(qI 10),(qI 1),(qI 0),(qS (⟨#[97]⟩:ByteArray)),(.sl true 1 [[(qI 0)]] [(qI 0)])],[(qI 4),(qI 1),(qI 0),(qS (⟨#[97]⟩:ByteArray)),nl],[(qI 14),(qI 1),(qI 0),(qS (⟨#[]⟩:ByteArray)),(.sl true 1 [[(qI 2)]] [(qI 2)])],[(qI 18),(qI 1),(qI 0),(qS (⟨#[]⟩:ByteArray)),(.sl false 1 [[(qI 1)],[(qI 3)]] [])]] []
def jmw:AV:=.sl false 5 [[(qS (⟨#[109,97,105,110]⟩:ByteArray)),(qI 1),nl,(qI 0),(qI 4)]] []
def srcL:List AV:=[jmA,jmw,(.sl false 1 [[(qI 1)],[(qI 0)],[(qI 1)],[(qI 0)],[(qI 0)]] []),(.sl false 1 [[(qI (-1))],[(qI 0)],[(qI 0)],[(qI (-1))],[(qI (-1))]] []),(.sl false 1 [[(qI 0)],[(qI 0)],[(qI 0)],[(qI 0)],[(qI 0)]] []),(.sl false 1 [[(qI 1)]] [])]
def jiW:ByteArray:=(⟨#[102,110,32,109,97,105,110,40,41,123,108,101,116,32,97,61,49,59,112,114,105,110,116,32,97,59,125]⟩:ByteArray)
theorem jmH:jax Tryz.prog 21 [qS jiW] (.tup [jm9,qI 0,qI 0]):=ja0 jcQ mixed xH 400 60 (by decide +kernel)
def xT1:XT:=(21,[qS jiW],.tup [jm9,qI 0,qI 0])::xT
theorem jls:jhP Tryz.prog xT1:=⟨⟨by kernel_rfl,jmH⟩,jcQ⟩
theorem jmC:jax Tryz.prog 10 [qS jiW] (.tup [.agg [jmA,jmw],qI 0,qI 0]):=ja0 jls mixed xH 400 60 (by decide +kernel)
def xT2:XT:=(10,[qS jiW],.tup [.agg [jmA,jmw],qI 0,qI 0])::xT
theorem jlt:jhP Tryz.prog xT2:=⟨⟨by kernel_rfl,jmC⟩,jcQ⟩
theorem jlc:jax Tryz.prog 5 [qS jiW] (.tup [.agg srcL,qI 0,qI 0]):=ja0 jlt mixed xH 400 60 (by decide +kernel)
def jdK:AV:=.agg srcL
def eX:List AV:=[qI 1,qS (⟨#[97]⟩:ByteArray),qI 1,qI 5,qS (⟨#[]⟩:ByteArray)]
def b0:AV:=.agg [qS (⟨#[]⟩:ByteArray),nl,nl,nl]
def jh9:AV:=.sl true 5 [eX] []
def jke:AV:=.sl false 5 [eX] []
def jjC:AV:=.agg [(.sl false 3 [[(qI 0),(qI 3),(.sl false 3 [[(qI 1),(qI 1),(qS (⟨#[]⟩:ByteArray))]] [])]] []),nl,(qI 0),nl,(qI 0),(qI 0),(qI 1)]
theorem jm0:jax Tryz.prog 14 [b0] nl:=ja0 jcQ mixed xH 400 60 (by decide +kernel)
theorem jlj:jax Tryz.prog 13 [nl,qI 1] nl:=ja0 jcQ mixed xH 400 60 (by decide +kernel)
theorem jiA:jax Tryz.prog 17 [nl] nl:=ja0 jcQ mixed xH 400 60 (by decide +kernel)
theorem jm5:jax Tryz.prog 12 [.agg eX] (qB true):=ja0 jcQ mixed xH 400 60 (by decide +kernel)
theorem jiN:jax Tryz.prog 30 [nl,jh9] jke:=ja0 jcQ mixed xH 400 60 (by decide +kernel)
theorem at1:jax Tryz.prog 15 [jdK,b0,qI 1] jjC:=ja0 jcQ mixed xH 400 60 (by decide +kernel)
end Go.Proofs.YtoclmdkhgfghbaaGreatDoor
