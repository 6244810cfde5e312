/- The facts on the types and functions of the translation, as the kernel reckons them. The facts on the map types of the translation, as the kernel reckons them. No conditions. -/
import Derived.Test.YtfkgcobaheegbaaGreatDoorGdJ
import Derived.Test.YtfkgcobaheegbaaGreatDoorProg
import Derived.KernelRfl
import Derived.Test.YtfkgcobaheegbaaGreatDoorGdR
set_option linter.all false
namespace Go.Proofs.YtfkgcobaheegbaaGreatDoor
open Go Go.Gd
@[go_sem] theorem j7s:jct Tryz.prog 3=some 1:=by kernel_rfl
@[go_sem] theorem j7m:jaM Tryz.prog 3=some false:=by kernel_rfl
@[go_sem] theorem j7y:jbK Tryz.prog 3=some [.int .i64 0]:=by kernel_rfl
@[go_sem] theorem j6A:jaV Tryz.prog 3=false:=by kernel_rfl
@[go_sem] theorem j6C:jgY Tryz.prog 3=false:=by kernel_rfl
@[go_sem] theorem j6y:jgs Tryz.prog 3=false:=by kernel_rfl
@[go_sem] theorem j6B:jp4 Tryz.prog 3=some .i64:=by kernel_rfl
@[go_sem] theorem j7p:jcc Tryz.prog 3=8:=by kernel_rfl
@[go_sem] theorem j6z:jgs Tryz.prog 4=true:=by kernel_rfl
@[go_sem] theorem j7t:jct Tryz.prog 5=some 1:=by kernel_rfl
@[go_sem] theorem j7n:jaM Tryz.prog 5=some false:=by kernel_rfl
@[go_sem] theorem j7u:jct Tryz.prog 9=some 1:=by kernel_rfl
@[go_sem] theorem j7o:jaM Tryz.prog 9=some false:=by kernel_rfl
@[go_sem] theorem j7z:jbK Tryz.prog 9=some [.string ⟨#[]⟩]:=by kernel_rfl
@[go_sem] theorem j6D:jgZ Tryz.prog 9=true:=by kernel_rfl
@[go_sem] theorem j7q:jcc Tryz.prog 9=16:=by kernel_rfl
@[go_sem] theorem j6Q:jct Tryz.prog 22=some 1:=by kernel_rfl
@[go_sem] theorem j4U:jaM Tryz.prog 22=some false:=by kernel_rfl
@[go_sem] theorem j7c:jbK Tryz.prog 22=some [.slice none 0 0]:=by kernel_rfl
@[go_sem] theorem j6a:elT Tryz.prog 22=some 3:=by kernel_rfl
@[go_sem] theorem j6k:jiQ Tryz.prog 22=some 1:=by kernel_rfl
@[go_sem] theorem j3V:jaV Tryz.prog 22=true:=by kernel_rfl
@[go_sem] theorem j37:jgZ Tryz.prog 22=false:=by kernel_rfl
@[go_sem] theorem j5f:jcc Tryz.prog 22=24:=by kernel_rfl
@[go_sem] theorem j6R:jct Tryz.prog 24=some 1:=by kernel_rfl
@[go_sem] theorem j4V:jaM Tryz.prog 24=some false:=by kernel_rfl
@[go_sem] theorem j6b:elT Tryz.prog 24=some 53:=by kernel_rfl
@[go_sem] theorem j6l:jiQ Tryz.prog 24=some 5:=by kernel_rfl
@[go_sem] theorem j3W:jaV Tryz.prog 24=true:=by kernel_rfl
@[go_sem] theorem j6S:jct Tryz.prog 25=some 1:=by kernel_rfl
@[go_sem] theorem j4W:jaM Tryz.prog 25=some false:=by kernel_rfl
@[go_sem] theorem j6c:elT Tryz.prog 25=some 100:=by kernel_rfl
@[go_sem] theorem j6m:jiQ Tryz.prog 25=some 5:=by kernel_rfl
@[go_sem] theorem j3X:jaV Tryz.prog 25=true:=by kernel_rfl
@[go_sem] theorem j6T:jct Tryz.prog 27=some 2:=by kernel_rfl
@[go_sem] theorem j4X:jaM Tryz.prog 27=some true:=by kernel_rfl
@[go_sem] theorem j7d:jbK Tryz.prog 27=some [.slice none 0 0,.slice none 0 0]:=by kernel_rfl
@[go_sem] theorem j0A:jck Tryz.prog 27 0=some 0:=by kernel_rfl
@[go_sem] theorem j0B:jck Tryz.prog 27 1=some 1:=by kernel_rfl
@[go_sem] theorem j6F:jcs Tryz.prog 27=some [(0,1),(1,1)]:=by kernel_rfl
@[go_sem] theorem j6U:jct Tryz.prog 29=some 6:=by kernel_rfl
@[go_sem] theorem j4Y:jaM Tryz.prog 29=some true:=by kernel_rfl
@[go_sem] theorem j7e:jbK Tryz.prog 29=some [.slice none 0 0,.slice none 0 0,.slice none 0 0,.slice none 0 0,.slice none 0 0,.slice none 0 0]:=by kernel_rfl
@[go_sem] theorem j0C:jck Tryz.prog 29 0=some 0:=by kernel_rfl
@[go_sem] theorem j0D:jck Tryz.prog 29 1=some 2:=by kernel_rfl
@[go_sem] theorem j0E:jck Tryz.prog 29 2=some 3:=by kernel_rfl
@[go_sem] theorem j0F:jck Tryz.prog 29 3=some 4:=by kernel_rfl
@[go_sem] theorem j0G:jck Tryz.prog 29 4=some 5:=by kernel_rfl
@[go_sem] theorem j6G:jcs Tryz.prog 29=some [(0,2),(2,1),(3,1),(4,1),(5,1)]:=by kernel_rfl
@[go_sem] theorem j6V:jct Tryz.prog 30=some 1:=by kernel_rfl
@[go_sem] theorem j4Z:jaM Tryz.prog 30=some false:=by kernel_rfl
@[go_sem] theorem j6W:jct Tryz.prog 35=some 1:=by kernel_rfl
@[go_sem] theorem j40:jaM Tryz.prog 35=some false:=by kernel_rfl
@[go_sem] theorem j6d:elT Tryz.prog 35=some 57:=by kernel_rfl
@[go_sem] theorem j6n:jiQ Tryz.prog 35=some 3:=by kernel_rfl
@[go_sem] theorem j3Y:jaV Tryz.prog 35=true:=by kernel_rfl
@[go_sem] theorem j6X:jct Tryz.prog 36=some 1:=by kernel_rfl
@[go_sem] theorem j41:jaM Tryz.prog 36=some false:=by kernel_rfl
@[go_sem] theorem j6e:elT Tryz.prog 36=some 22:=by kernel_rfl
@[go_sem] theorem j6o:jiQ Tryz.prog 36=some 1:=by kernel_rfl
@[go_sem] theorem j3Z:jaV Tryz.prog 36=true:=by kernel_rfl
@[go_sem] theorem j6Y:jct Tryz.prog 37=some 1:=by kernel_rfl
@[go_sem] theorem j42:jaM Tryz.prog 37=some false:=by kernel_rfl
@[go_sem] theorem j6f:elT Tryz.prog 37=some 9:=by kernel_rfl
@[go_sem] theorem j6p:jiQ Tryz.prog 37=some 1:=by kernel_rfl
@[go_sem] theorem j30:jaV Tryz.prog 37=true:=by kernel_rfl
@[go_sem] theorem j6Z:jct Tryz.prog 39=some 7:=by kernel_rfl
@[go_sem] theorem j43:jaM Tryz.prog 39=some true:=by kernel_rfl
@[go_sem] theorem j7f:jbK Tryz.prog 39=some [.slice none 0 0,.slice none 0 0,.int .i64 0,.slice none 0 0,.int .i64 0,.int .i64 0,.int .i64 0]:=by kernel_rfl
@[go_sem] theorem j0H:jck Tryz.prog 39 0=some 0:=by kernel_rfl
@[go_sem] theorem j0I:jck Tryz.prog 39 1=some 1:=by kernel_rfl
@[go_sem] theorem j0J:jck Tryz.prog 39 2=some 2:=by kernel_rfl
@[go_sem] theorem j0K:jck Tryz.prog 39 3=some 3:=by kernel_rfl
@[go_sem] theorem j0L:jck Tryz.prog 39 4=some 4:=by kernel_rfl
@[go_sem] theorem j0M:jck Tryz.prog 39 5=some 5:=by kernel_rfl
@[go_sem] theorem j0N:jck Tryz.prog 39 6=some 6:=by kernel_rfl
@[go_sem] theorem j6H:jcs Tryz.prog 39=some [(0,1),(1,1),(2,1),(3,1),(4,1),(5,1),(6,1)]:=by kernel_rfl
@[go_sem] theorem j5d:joq Tryz.prog 46=some (2,1):=by kernel_rfl
@[go_sem] theorem j5e:joq Tryz.prog 50=some (2,1):=by kernel_rfl
@[go_sem] theorem j60:jct Tryz.prog 53=some 5:=by kernel_rfl
@[go_sem] theorem j44:jaM Tryz.prog 53=some true:=by kernel_rfl
@[go_sem] theorem j7g:jbK Tryz.prog 53=some [.int .i64 0,.int .i64 0,.int .i64 0,.string ⟨#[]⟩,.slice none 0 0]:=by kernel_rfl
@[go_sem] theorem j0O:jck Tryz.prog 53 0=some 0:=by kernel_rfl
@[go_sem] theorem j08:fTy Tryz.prog 53 0=some (3,0):=by kernel_rfl
@[go_sem] theorem j0P:jck Tryz.prog 53 1=some 1:=by kernel_rfl
@[go_sem] theorem j0Q:jck Tryz.prog 53 2=some 2:=by kernel_rfl
@[go_sem] theorem j0R:jck Tryz.prog 53 3=some 3:=by kernel_rfl
@[go_sem] theorem j0S:jck Tryz.prog 53 4=some 4:=by kernel_rfl
@[go_sem] theorem j09:fTy Tryz.prog 53 4=some (22,4):=by kernel_rfl
@[go_sem] theorem j6I:jcs Tryz.prog 53=some [(0,1),(1,1),(2,1),(3,1),(4,1)]:=by kernel_rfl
@[go_sem] theorem j5g:jcc Tryz.prog 53=64:=by kernel_rfl
@[go_sem] theorem j61:jct Tryz.prog 54=some 1:=by kernel_rfl
@[go_sem] theorem j45:jaM Tryz.prog 54=some false:=by kernel_rfl
@[go_sem] theorem j6g:elT Tryz.prog 54=some 59:=by kernel_rfl
@[go_sem] theorem j6q:jiQ Tryz.prog 54=some 3:=by kernel_rfl
@[go_sem] theorem j31:jaV Tryz.prog 54=true:=by kernel_rfl
@[go_sem] theorem j62:jct Tryz.prog 55=some 1:=by kernel_rfl
@[go_sem] theorem j46:jaM Tryz.prog 55=some false:=by kernel_rfl
@[go_sem] theorem j6h:elT Tryz.prog 55=some 89:=by kernel_rfl
@[go_sem] theorem j6r:jiQ Tryz.prog 55=some 2:=by kernel_rfl
@[go_sem] theorem j32:jaV Tryz.prog 55=true:=by kernel_rfl
@[go_sem] theorem j63:jct Tryz.prog 57=some 3:=by kernel_rfl
@[go_sem] theorem j47:jaM Tryz.prog 57=some true:=by kernel_rfl
@[go_sem] theorem j7h:jbK Tryz.prog 57=some [.int .i64 0,.slice none 0 0,.slice none 0 0]:=by kernel_rfl
@[go_sem] theorem j0T:jck Tryz.prog 57 0=some 0:=by kernel_rfl
@[go_sem] theorem j0U:jck Tryz.prog 57 1=some 1:=by kernel_rfl
@[go_sem] theorem j0V:jck Tryz.prog 57 2=some 2:=by kernel_rfl
@[go_sem] theorem j6J:jcs Tryz.prog 57=some [(0,1),(1,1),(2,1)]:=by kernel_rfl
@[go_sem] theorem j5h:jcc Tryz.prog 57=56:=by kernel_rfl
@[go_sem] theorem j64:jct Tryz.prog 59=some 3:=by kernel_rfl
@[go_sem] theorem j48:jaM Tryz.prog 59=some true:=by kernel_rfl
@[go_sem] theorem j7i:jbK Tryz.prog 59=some [.int .i64 0,.int .i64 0,.string ⟨#[]⟩]:=by kernel_rfl
@[go_sem] theorem j0W:jck Tryz.prog 59 0=some 0:=by kernel_rfl
@[go_sem] theorem j0X:jck Tryz.prog 59 1=some 1:=by kernel_rfl
@[go_sem] theorem j0Y:jck Tryz.prog 59 2=some 2:=by kernel_rfl
@[go_sem] theorem j6K:jcs Tryz.prog 59=some [(0,1),(1,1),(2,1)]:=by kernel_rfl
@[go_sem] theorem j3P:jhY Tryz.prog 59=some [.int .i64,.int .i64,.str]:=by kernel_rfl
@[go_sem] theorem j33:jaV Tryz.prog 59=false:=by kernel_rfl
@[go_sem] theorem j36:jgY Tryz.prog 59=false:=by kernel_rfl
@[go_sem] theorem j3U:jgs Tryz.prog 59=false:=by kernel_rfl
@[go_sem] theorem j5i:jcc Tryz.prog 59=32:=by kernel_rfl
@[go_sem] theorem j65:jct Tryz.prog 60=some 1:=by kernel_rfl
@[go_sem] theorem j49:jaM Tryz.prog 60=some false:=by kernel_rfl
@[go_sem] theorem j6i:elT Tryz.prog 60=some 63:=by kernel_rfl
@[go_sem] theorem j6s:jiQ Tryz.prog 60=some 3:=by kernel_rfl
@[go_sem] theorem j34:jaV Tryz.prog 60=true:=by kernel_rfl
@[go_sem] theorem j66:jct Tryz.prog 63=some 3:=by kernel_rfl
@[go_sem] theorem j7j:jbK Tryz.prog 63=some [.string ⟨#[]⟩,.int .i64 0,.int .i64 0]:=by kernel_rfl
@[go_sem] theorem j0Z:jck Tryz.prog 63 0=some 0:=by kernel_rfl
@[go_sem] theorem j00:jck Tryz.prog 63 1=some 1:=by kernel_rfl
@[go_sem] theorem j01:jck Tryz.prog 63 2=some 2:=by kernel_rfl
@[go_sem] theorem j6L:jcs Tryz.prog 63=some [(0,1),(1,1),(2,1)]:=by kernel_rfl
@[go_sem] theorem j5j:jcc Tryz.prog 63=32:=by kernel_rfl
@[go_sem] theorem j67:jct Tryz.prog 89=some 2:=by kernel_rfl
@[go_sem] theorem j5a:jaM Tryz.prog 89=some true:=by kernel_rfl
@[go_sem] theorem j7k:jbK Tryz.prog 89=some [.int .i64 0,.int .i64 0]:=by kernel_rfl
@[go_sem] theorem j02:jck Tryz.prog 89 0=some 0:=by kernel_rfl
@[go_sem] theorem j03:jck Tryz.prog 89 1=some 1:=by kernel_rfl
@[go_sem] theorem j6M:jcs Tryz.prog 89=some [(0,1),(1,1)]:=by kernel_rfl
@[go_sem] theorem j3Q:jhY Tryz.prog 89=some [.int .i64,.int .i64]:=by kernel_rfl
@[go_sem] theorem j5k:jcc Tryz.prog 89=16:=by kernel_rfl
@[go_sem] theorem j68:jct Tryz.prog 93=some 1:=by kernel_rfl
@[go_sem] theorem j5b:jaM Tryz.prog 93=some false:=by kernel_rfl
@[go_sem] theorem j7l:jbK Tryz.prog 95=some [.slice none 0 0,.slice none 0 0,.slice none 0 0,.slice none 0 0,.slice none 0 0,.slice none 0 0,.slice none 0 0,.slice none 0 0,.int .i64 0,.slice none 0 0,.int .i64 0,.int .i64 0,.int .i64 0,.slice none 0 0,.int .i64 0]:=by kernel_rfl
@[go_sem] theorem j04:jck Tryz.prog 95 0=some 0:=by kernel_rfl
@[go_sem] theorem j05:jck Tryz.prog 95 1=some 6:=by kernel_rfl
@[go_sem] theorem j06:jck Tryz.prog 95 2=some 13:=by kernel_rfl
@[go_sem] theorem j07:jck Tryz.prog 95 3=some 14:=by kernel_rfl
@[go_sem] theorem j6N:jcs Tryz.prog 95=some [(0,6),(6,7),(13,1),(14,1)]:=by kernel_rfl
@[go_sem] theorem j69:jct Tryz.prog 98=some 1:=by kernel_rfl
@[go_sem] theorem j5c:jaM Tryz.prog 98=some false:=by kernel_rfl
@[go_sem] theorem j6j:elT Tryz.prog 98=some 111:=by kernel_rfl
@[go_sem] theorem j6t:jiQ Tryz.prog 98=some 2:=by kernel_rfl
@[go_sem] theorem j35:jaV Tryz.prog 98=true:=by kernel_rfl
@[go_sem] theorem j4i:jct Tryz.prog 100=some 5:=by kernel_rfl
@[go_sem] theorem j1P:jaM Tryz.prog 100=some true:=by kernel_rfl
@[go_sem] theorem j4N:jbK Tryz.prog 100=some [.string ⟨#[]⟩,.int .i64 0,.slice none 0 0,.int .i64 0,.int .i64 0]:=by kernel_rfl
@[go_sem] theorem jzj:jck Tryz.prog 100 0=some 0:=by kernel_rfl
@[go_sem] theorem jzk:jck Tryz.prog 100 2=some 2:=by kernel_rfl
@[go_sem] theorem jzl:jck Tryz.prog 100 3=some 3:=by kernel_rfl
@[go_sem] theorem jzm:jck Tryz.prog 100 4=some 4:=by kernel_rfl
@[go_sem] theorem j4b:jcs Tryz.prog 100=some [(0,1),(1,1),(2,1),(3,1),(4,1)]:=by kernel_rfl
@[go_sem] theorem j1U:jcc Tryz.prog 100=64:=by kernel_rfl
@[go_sem] theorem j4j:jct Tryz.prog 111=some 2:=by kernel_rfl
@[go_sem] theorem j4O:jbK Tryz.prog 111=some [.string ⟨#[]⟩,.int .i64 0]:=by kernel_rfl
@[go_sem] theorem jzn:jck Tryz.prog 111 0=some 0:=by kernel_rfl
@[go_sem] theorem jzo:jck Tryz.prog 111 1=some 1:=by kernel_rfl
@[go_sem] theorem j4c:jcs Tryz.prog 111=some [(0,1),(1,1)]:=by kernel_rfl
@[go_sem] theorem j1V:jcc Tryz.prog 111=24:=by kernel_rfl
@[go_sem] theorem j4k:jct Tryz.prog 162=some 1:=by kernel_rfl
@[go_sem] theorem j1Q:jaM Tryz.prog 162=some false:=by kernel_rfl
@[go_sem] theorem j3O:elT Tryz.prog 162=some 216:=by kernel_rfl
@[go_sem] theorem j3R:jiQ Tryz.prog 162=some 3:=by kernel_rfl
@[go_sem] theorem j4P:jbK Tryz.prog 167=some [.string ⟨#[]⟩,.slice none 0 0,.int .i64 0,.slice none 0 0,.int .i64 0,.int .i64 0,.int .i64 0]:=by kernel_rfl
@[go_sem] theorem jzp:jck Tryz.prog 167 0=some 0:=by kernel_rfl
@[go_sem] theorem jzq:jck Tryz.prog 167 1=some 1:=by kernel_rfl
@[go_sem] theorem jzr:jck Tryz.prog 167 2=some 2:=by kernel_rfl
@[go_sem] theorem jzs:jck Tryz.prog 167 3=some 3:=by kernel_rfl
@[go_sem] theorem jzt:jck Tryz.prog 167 4=some 4:=by kernel_rfl
@[go_sem] theorem jzu:jck Tryz.prog 167 5=some 5:=by kernel_rfl
@[go_sem] theorem jzv:jck Tryz.prog 167 6=some 6:=by kernel_rfl
@[go_sem] theorem j4d:jcs Tryz.prog 167=some [(0,1),(1,1),(2,1),(3,1),(4,1),(5,1),(6,1)]:=by kernel_rfl
@[go_sem] theorem j4Q:jbK Tryz.prog 172=some [.slice none 0 0,.slice none 0 0,.slice none 0 0,.slice none 0 0,.slice none 0 0,.slice none 0 0,.int .i64 0,.slice none 0 0,.int .i64 0,.int .i64 0,.int .i64 0]:=by kernel_rfl
@[go_sem] theorem jzw:jck Tryz.prog 172 0=some 0:=by kernel_rfl
@[go_sem] theorem jzx:jck Tryz.prog 172 1=some 6:=by kernel_rfl
@[go_sem] theorem jzy:jck Tryz.prog 172 2=some 7:=by kernel_rfl
@[go_sem] theorem jzz:jck Tryz.prog 172 3=some 8:=by kernel_rfl
@[go_sem] theorem jzA:jck Tryz.prog 172 4=some 9:=by kernel_rfl
@[go_sem] theorem jzB:jck Tryz.prog 172 5=some 10:=by kernel_rfl
@[go_sem] theorem j4e:jcs Tryz.prog 172=some [(0,6),(6,1),(7,1),(8,1),(9,1),(10,1)]:=by kernel_rfl
@[go_sem] theorem j4l:jct Tryz.prog 216=some 3:=by kernel_rfl
@[go_sem] theorem j1R:jaM Tryz.prog 216=some true:=by kernel_rfl
@[go_sem] theorem j4R:jbK Tryz.prog 216=some [.int .i64 0,.string ⟨#[]⟩,.int .i64 0]:=by kernel_rfl
@[go_sem] theorem jzC:jck Tryz.prog 216 0=some 0:=by kernel_rfl
@[go_sem] theorem jzD:jck Tryz.prog 216 1=some 1:=by kernel_rfl
@[go_sem] theorem jzE:jck Tryz.prog 216 2=some 2:=by kernel_rfl
@[go_sem] theorem j4f:jcs Tryz.prog 216=some [(0,1),(1,1),(2,1)]:=by kernel_rfl
@[go_sem] theorem j1W:jcc Tryz.prog 216=32:=by kernel_rfl
@[go_sem] theorem j4m:jct Tryz.prog 272=some 1:=by kernel_rfl
@[go_sem] theorem j1S:jaM Tryz.prog 272=some false:=by kernel_rfl
@[go_sem] theorem j4S:jbK Tryz.prog 274=some [.slice none 0 0,.slice none 0 0,.slice none 0 0,.slice none 0 0,.slice none 0 0,.slice none 0 0,.slice none 0 0,.slice none 0 0,.int .i64 0]:=by kernel_rfl
@[go_sem] theorem jzF:jck Tryz.prog 274 0=some 0:=by kernel_rfl
@[go_sem] theorem jzG:jck Tryz.prog 274 1=some 6:=by kernel_rfl
@[go_sem] theorem jzH:jck Tryz.prog 274 2=some 7:=by kernel_rfl
@[go_sem] theorem jzI:jck Tryz.prog 274 3=some 8:=by kernel_rfl
@[go_sem] theorem j4g:jcs Tryz.prog 274=some [(0,6),(6,1),(7,1),(8,1)]:=by kernel_rfl
@[go_sem] theorem j5m:jab Tryz.prog 15=true:=by kernel_rfl
@[go_sem] theorem j5n:jab Tryz.prog 16=true:=by kernel_rfl
@[go_sem] theorem j5o:jab Tryz.prog 17=true:=by kernel_rfl
@[go_sem] theorem j5p:jab Tryz.prog 18=true:=by kernel_rfl
@[go_sem] theorem j5q:jab Tryz.prog 19=true:=by kernel_rfl
@[go_sem] theorem j5r:jab Tryz.prog 20=true:=by kernel_rfl
@[go_sem] theorem j5s:jab Tryz.prog 21=true:=by kernel_rfl
@[go_sem] theorem j5t:jab Tryz.prog 22=true:=by kernel_rfl
@[go_sem] theorem j5u:jab Tryz.prog 23=true:=by kernel_rfl
@[go_sem] theorem j5v:jab Tryz.prog 24=true:=by kernel_rfl
@[go_sem] theorem j5w:jab Tryz.prog 25=true:=by kernel_rfl
@[go_sem] theorem j5x:jab Tryz.prog 26=true:=by kernel_rfl
@[go_sem] theorem j5y:jab Tryz.prog 27=true:=by kernel_rfl
@[go_sem] theorem j5z:jab Tryz.prog 28=true:=by kernel_rfl
@[go_sem] theorem j5A:jab Tryz.prog 29=true:=by kernel_rfl
@[go_sem] theorem j5B:jab Tryz.prog 31=true:=by kernel_rfl
@[go_sem] theorem j5C:jab Tryz.prog 53=true:=by kernel_rfl
@[go_sem] theorem j5D:jab Tryz.prog 54=true:=by kernel_rfl
@[go_sem] theorem j5E:jab Tryz.prog 55=true:=by kernel_rfl
@[go_sem] theorem j5F:jab Tryz.prog 56=true:=by kernel_rfl
@[go_sem] theorem j5G:jab Tryz.prog 57=true:=by kernel_rfl
@[go_sem] theorem j5H:jab Tryz.prog 58=true:=by kernel_rfl
@[go_sem] theorem j5I:jab Tryz.prog 59=true:=by kernel_rfl
@[go_sem] theorem j5J:jab Tryz.prog 60=true:=by kernel_rfl
@[go_sem] theorem j5K:jab Tryz.prog 61=true:=by kernel_rfl
@[go_sem] theorem j5L:jab Tryz.prog 62=true:=by kernel_rfl
@[go_sem] theorem j5M:jab Tryz.prog 63=true:=by kernel_rfl
@[go_sem] theorem j5N:jab Tryz.prog 64=true:=by kernel_rfl
@[go_sem] theorem j5O:jab Tryz.prog 65=true:=by kernel_rfl
@[go_sem] theorem j5P:jab Tryz.prog 66=true:=by kernel_rfl
@[go_sem] theorem j5Q:jab Tryz.prog 67=true:=by kernel_rfl
@[go_sem] theorem j5R:jab Tryz.prog 80=true:=by kernel_rfl
@[go_sem] theorem j5S:jab Tryz.prog 81=true:=by kernel_rfl
@[go_sem] theorem j5T:jab Tryz.prog 91=true:=by kernel_rfl
@[go_sem] theorem j5U:jab Tryz.prog 93=true:=by kernel_rfl
@[go_sem] theorem j5V:jab Tryz.prog 94=true:=by kernel_rfl
@[go_sem] theorem j5W:jab Tryz.prog 95=true:=by kernel_rfl
@[go_sem] theorem j5X:jab Tryz.prog 96=true:=by kernel_rfl
@[go_sem] theorem j5Y:jab Tryz.prog 97=true:=by kernel_rfl
@[go_sem] theorem j5Z:jab Tryz.prog 98=true:=by kernel_rfl
@[go_sem] theorem j50:jab Tryz.prog 99=true:=by kernel_rfl
@[go_sem] theorem j1X:jab Tryz.prog 100=true:=by kernel_rfl
@[go_sem] theorem j1Y:jab Tryz.prog 101=true:=by kernel_rfl
@[go_sem] theorem j1Z:jab Tryz.prog 102=true:=by kernel_rfl
@[go_sem] theorem j10:jab Tryz.prog 103=true:=by kernel_rfl
@[go_sem] theorem j11:jab Tryz.prog 104=true:=by kernel_rfl
@[go_sem] theorem j12:jab Tryz.prog 105=true:=by kernel_rfl
@[go_sem] theorem j13:jab Tryz.prog 106=true:=by kernel_rfl
@[go_sem] theorem j14:jab Tryz.prog 107=true:=by kernel_rfl
@[go_sem] theorem j15:jab Tryz.prog 108=true:=by kernel_rfl
@[go_sem] theorem j16:jab Tryz.prog 109=true:=by kernel_rfl
@[go_sem] theorem j17:jab Tryz.prog 110=true:=by kernel_rfl
@[go_sem] theorem j18:jab Tryz.prog 111=true:=by kernel_rfl
@[go_sem] theorem j19:jab Tryz.prog 112=true:=by kernel_rfl
@[go_sem] theorem j2a:jab Tryz.prog 113=true:=by kernel_rfl
@[go_sem] theorem j2b:jab Tryz.prog 114=true:=by kernel_rfl
@[go_sem] theorem j2c:jab Tryz.prog 115=true:=by kernel_rfl
@[go_sem] theorem j2d:jab Tryz.prog 116=true:=by kernel_rfl
@[go_sem] theorem j2e:jab Tryz.prog 117=true:=by kernel_rfl
@[go_sem] theorem j2f:jab Tryz.prog 118=true:=by kernel_rfl
@[go_sem] theorem j2g:jab Tryz.prog 119=true:=by kernel_rfl
@[go_sem] theorem j2h:jab Tryz.prog 120=true:=by kernel_rfl
@[go_sem] theorem j2i:jab Tryz.prog 121=true:=by kernel_rfl
@[go_sem] theorem j2j:jab Tryz.prog 122=true:=by kernel_rfl
@[go_sem] theorem j2k:jab Tryz.prog 142=true:=by kernel_rfl
@[go_sem] theorem j2l:jab Tryz.prog 143=true:=by kernel_rfl
@[go_sem] theorem j2m:jab Tryz.prog 144=true:=by kernel_rfl
@[go_sem] theorem j2n:jab Tryz.prog 145=true:=by kernel_rfl
@[go_sem] theorem j2o:jab Tryz.prog 146=true:=by kernel_rfl
@[go_sem] theorem j2p:jab Tryz.prog 147=true:=by kernel_rfl
@[go_sem] theorem j2q:jab Tryz.prog 148=true:=by kernel_rfl
@[go_sem] theorem j2r:jab Tryz.prog 149=true:=by kernel_rfl
@[go_sem] theorem j2s:jab Tryz.prog 150=true:=by kernel_rfl
@[go_sem] theorem j2t:jab Tryz.prog 151=true:=by kernel_rfl
@[go_sem] theorem j2u:jab Tryz.prog 152=true:=by kernel_rfl
@[go_sem] theorem j2v:jab Tryz.prog 153=true:=by kernel_rfl
@[go_sem] theorem j2w:jab Tryz.prog 154=true:=by kernel_rfl
@[go_sem] theorem j2x:jab Tryz.prog 155=true:=by kernel_rfl
@[go_sem] theorem j2y:jab Tryz.prog 156=true:=by kernel_rfl
@[go_sem] theorem j2z:jab Tryz.prog 157=true:=by kernel_rfl
@[go_sem] theorem j2A:jab Tryz.prog 158=true:=by kernel_rfl
@[go_sem] theorem j2B:jab Tryz.prog 159=true:=by kernel_rfl
@[go_sem] theorem j2C:jab Tryz.prog 160=true:=by kernel_rfl
@[go_sem] theorem j2D:jab Tryz.prog 161=true:=by kernel_rfl
@[go_sem] theorem j2E:jab Tryz.prog 162=true:=by kernel_rfl
@[go_sem] theorem j2F:jab Tryz.prog 163=true:=by kernel_rfl
@[go_sem] theorem j2G:jab Tryz.prog 164=true:=by kernel_rfl
@[go_sem] theorem j2H:jab Tryz.prog 165=true:=by kernel_rfl
@[go_sem] theorem j2I:jab Tryz.prog 166=true:=by kernel_rfl
@[go_sem] theorem j2J:jab Tryz.prog 167=true:=by kernel_rfl
@[go_sem] theorem j2K:jab Tryz.prog 172=true:=by kernel_rfl
@[go_sem] theorem j2L:jab Tryz.prog 173=true:=by kernel_rfl
@[go_sem] theorem j2M:jab Tryz.prog 177=true:=by kernel_rfl
@[go_sem] theorem j2N:jab Tryz.prog 178=true:=by kernel_rfl
@[go_sem] theorem j2O:jab Tryz.prog 197=true:=by kernel_rfl
@[go_sem] theorem j2P:jab Tryz.prog 203=true:=by kernel_rfl
@[go_sem] theorem j2Q:jab Tryz.prog 204=true:=by kernel_rfl
@[go_sem] theorem j2R:jab Tryz.prog 205=true:=by kernel_rfl
@[go_sem] theorem j2S:jab Tryz.prog 206=true:=by kernel_rfl
@[go_sem] theorem j2T:jab Tryz.prog 207=true:=by kernel_rfl
@[go_sem] theorem j2U:jab Tryz.prog 208=true:=by kernel_rfl
@[go_sem] theorem j2V:jab Tryz.prog 209=true:=by kernel_rfl
@[go_sem] theorem j2W:jab Tryz.prog 210=true:=by kernel_rfl
@[go_sem] theorem j2X:jab Tryz.prog 211=true:=by kernel_rfl
@[go_sem] theorem j2Y:jab Tryz.prog 212=true:=by kernel_rfl
@[go_sem] theorem j2Z:jab Tryz.prog 213=true:=by kernel_rfl
@[go_sem] theorem j20:jab Tryz.prog 214=true:=by kernel_rfl
@[go_sem] theorem j21:jab Tryz.prog 215=true:=by kernel_rfl
@[go_sem] theorem j22:jab Tryz.prog 216=true:=by kernel_rfl
@[go_sem] theorem j23:jab Tryz.prog 217=true:=by kernel_rfl
@[go_sem] theorem j24:jab Tryz.prog 218=true:=by kernel_rfl
@[go_sem] theorem j25:jab Tryz.prog 219=true:=by kernel_rfl
@[go_sem] theorem j26:jab Tryz.prog 220=true:=by kernel_rfl
@[go_sem] theorem j27:jab Tryz.prog 221=true:=by kernel_rfl
@[go_sem] theorem j28:jab Tryz.prog 222=true:=by kernel_rfl
@[go_sem] theorem j29:jab Tryz.prog 223=true:=by kernel_rfl
@[go_sem] theorem j3a:jab Tryz.prog 226=true:=by kernel_rfl
@[go_sem] theorem j3b:jab Tryz.prog 227=true:=by kernel_rfl
@[go_sem] theorem j3c:jab Tryz.prog 228=true:=by kernel_rfl
@[go_sem] theorem j3d:jab Tryz.prog 239=true:=by kernel_rfl
@[go_sem] theorem j3e:jab Tryz.prog 247=true:=by kernel_rfl
@[go_sem] theorem j3f:jab Tryz.prog 248=true:=by kernel_rfl
@[go_sem] theorem j3g:jab Tryz.prog 249=true:=by kernel_rfl
@[go_sem] theorem j3h:jab Tryz.prog 250=true:=by kernel_rfl
@[go_sem] theorem j3i:jab Tryz.prog 251=true:=by kernel_rfl
@[go_sem] theorem j3j:jab Tryz.prog 252=true:=by kernel_rfl
@[go_sem] theorem j3k:jab Tryz.prog 253=true:=by kernel_rfl
@[go_sem] theorem j3l:jab Tryz.prog 254=true:=by kernel_rfl
@[go_sem] theorem j3m:jab Tryz.prog 255=true:=by kernel_rfl
@[go_sem] theorem j3n:jab Tryz.prog 261=true:=by kernel_rfl
@[go_sem] theorem j3o:jab Tryz.prog 263=true:=by kernel_rfl
@[go_sem] theorem j3p:jab Tryz.prog 269=true:=by kernel_rfl
@[go_sem] theorem j3q:jab Tryz.prog 270=true:=by kernel_rfl
@[go_sem] theorem j3r:jab Tryz.prog 271=true:=by kernel_rfl
@[go_sem] theorem j3s:jab Tryz.prog 272=true:=by kernel_rfl
@[go_sem] theorem j3t:jab Tryz.prog 273=true:=by kernel_rfl
@[go_sem] theorem j3u:jab Tryz.prog 274=true:=by kernel_rfl
@[go_sem] theorem j3v:jab Tryz.prog 275=true:=by kernel_rfl
@[go_sem] theorem j3w:jab Tryz.prog 276=true:=by kernel_rfl
@[go_sem] theorem j3x:jab Tryz.prog 277=true:=by kernel_rfl
@[go_sem] theorem j3y:jab Tryz.prog 278=true:=by kernel_rfl
@[go_sem] theorem j3z:jab Tryz.prog 282=true:=by kernel_rfl
@[go_sem] theorem j3A:jab Tryz.prog 283=true:=by kernel_rfl
@[go_sem] theorem j3B:jab Tryz.prog 284=true:=by kernel_rfl
@[go_sem] theorem j3C:jab Tryz.prog 285=true:=by kernel_rfl
@[go_sem] theorem j3D:jab Tryz.prog 286=true:=by kernel_rfl
@[go_sem] theorem j3E:jab Tryz.prog 287=true:=by kernel_rfl
@[go_sem] theorem j3F:jab Tryz.prog 288=true:=by kernel_rfl
@[go_sem] theorem j3G:jab Tryz.prog 289=true:=by kernel_rfl
@[go_sem] theorem j3H:jab Tryz.prog 290=true:=by kernel_rfl
@[go_sem] theorem j3I:jab Tryz.prog 291=true:=by kernel_rfl
theorem mixed:Tryz.prog.follows .mixedOrders=true:=by kernel_rfl
theorem jat:jtJ Tryz.prog 186=some (false,184):=by kernel_rfl
end Go.Proofs.YtfkgcobaheegbaaGreatDoor
