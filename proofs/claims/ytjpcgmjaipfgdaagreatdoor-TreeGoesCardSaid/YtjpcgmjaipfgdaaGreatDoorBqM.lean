/- Lemmas. No conditions. -/
import Derived.Test.YtjpcgmjaipfgdaaGreatDoorBqL
set_option linter.all false
set_option maxHeartbeats 4000000
set_option maxRecDepth 10000
namespace Go.Gd
open Go
structure wx where
 name:ByteArray
 x:aD
 t:Int
 n:Int
 deriving Inhabited,DecidableEq
def Cr(x:wx):TB:=[.raw (.string x.name),.raw (.int .i64 x.x.at_),.raw (.string x.x.name),.raw (.int .i64 x.x.v.ty),.raw (.int .i64 x.x.v.n),.raw (.string x.x.v.s),.raw (.int .i64 x.t),.raw (.int .i64 x.n)]
section
variable (x y:wx)
@[go_sem] def Pc(q:TK):aW q (Cr x)=true:=by simp[Cr,aW,AV.all]
instance:bC Cr 8:=⟨fun _=>rfl,fun _=>rfl,fun x=>Pc x _⟩
end
def rF(s:TF):TF:=if 700<s.size then s.extract 0 700 else s
def Ng(s:TF):(rF s).size<=1000000:=by
 unfold rF;split
 ·rw[ByteArray.size_extract];omega
 ·omega
def Fe(s:TF):TF:=if 20<s.size then s.extract 0 20 else s
end Go.Gd
namespace Go.Proofs.YtjpcgmjaipfgdaaGreatDoor
open Go Go.Gd
def IG{s:TF}(he:(fY s).2.2=0):mn (fY s).1:=⟨y0 he,Km he⟩
end Go.Proofs.YtjpcgmjaipfgdaaGreatDoor