/- Lemmas. No conditions. -/
import Derived.Test.YtfkgcobaheegbaaGreatDoorSoC
import Derived.Test.YtfkgcobaheegbaaGreatDoorCmG
set_option linter.all false
set_option maxHeartbeats 4000000
set_option maxRecDepth 10000
namespace Go.Proofs.YtfkgcobaheegbaaGreatDoor
open Go Go.Gd
structure AtAll(p:ab)(s:aJ):Prop where
 pa:∀k,k<s.aq.length->1<=(nth s.aq k).path.length/\(nth s.aq k).path.length<=1000
 b:∀k,k<s.aq.length->0<=(nth s.aq k).pl.block/\(nth s.aq k).pl.block.toNat<p.aa.nodes.length
 at_:∀k,k<s.aq.length->0<=(nth s.aq k).pl.at_/\(nth s.aq k).pl.at_<(ai p (nth s.aq k).pl.block).l.length
end Go.Proofs.YtfkgcobaheegbaaGreatDoor
