/- Lemmas. No conditions. -/
import Derived.Test.YtfkgcobaheegbaaGreatDoorSo6
set_option linter.all false
set_option maxHeartbeats 4000000
set_option maxRecDepth 10000
namespace Go.Gd
open Go
attribute [go_sem] NJ Ow
end Go.Gd
namespace Go.Proofs.YtfkgcobaheegbaaGreatDoor
open Go Go.Gd
end Go.Proofs.YtfkgcobaheegbaaGreatDoor
