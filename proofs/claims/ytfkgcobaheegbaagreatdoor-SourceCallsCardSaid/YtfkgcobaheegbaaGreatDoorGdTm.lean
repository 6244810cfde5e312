/- The facts on the types and functions of the translation, as the kernel reckons them. The facts on the map types of the translation, as the kernel reckons them. No conditions. -/
import Derived.Test.YtfkgcobaheegbaaGreatDoorGdJ
import Derived.Test.YtfkgcobaheegbaaGreatDoorProg
import Derived.KernelRfl
import Derived.Test.YtfkgcobaheegbaaGreatDoorGdR
set_option linter.all false
namespace Go.Proofs.YtfkgcobaheegbaaGreatDoor
open Go Go.Gd
@[go_sem] theorem j72:jcy Tryz.prog 3=some 1:=by kernel_rfl
@[go_sem] theorem j7X:jaT Tryz.prog 3=some false:=by kernel_rfl
@[go_sem] theorem j77:jbN Tryz.prog 3=some [.int .i64 0]:=by kernel_rfl
@[go_sem] theorem j7c:jqO Tryz.prog 3=some .i64:=by kernel_rfl
@[go_sem] theorem j7Z:jcc Tryz.prog 3=8:=by kernel_rfl
@[go_sem] theorem j7b:jiQ Tryz.prog 4=true:=by kernel_rfl
@[go_sem] theorem j73:jcy Tryz.prog 9=some 1:=by kernel_rfl
@[go_sem] theorem j7Y:jaT Tryz.prog 9=some false:=by kernel_rfl
@[go_sem] theorem j78:jbN Tryz.prog 9=some [.string ⟨#[]⟩]:=by kernel_rfl
@[go_sem] theorem j7d:jho Tryz.prog 9=true:=by kernel_rfl
@[go_sem] theorem j70:jcc Tryz.prog 9=16:=by kernel_rfl
@[go_sem] theorem j7q:jcy Tryz.prog 22=some 1:=by kernel_rfl
@[go_sem] theorem j5J:jaT Tryz.prog 22=some false:=by kernel_rfl
@[go_sem] theorem j7N:jbN Tryz.prog 22=some [.slice none 0 0]:=by kernel_rfl
@[go_sem] theorem j6N:elT Tryz.prog 22=some 3:=by kernel_rfl
@[go_sem] theorem j6X:jjA Tryz.prog 22=some 1:=by kernel_rfl
@[go_sem] theorem j4I:ja0 Tryz.prog 22=true:=by kernel_rfl
@[go_sem] theorem j4U:jho Tryz.prog 22=false:=by kernel_rfl
@[go_sem] theorem j51:jcc Tryz.prog 22=24:=by kernel_rfl
@[go_sem] theorem j7r:jcy Tryz.prog 24=some 1:=by kernel_rfl
@[go_sem] theorem j5K:jaT Tryz.prog 24=some false:=by kernel_rfl
@[go_sem] theorem j6O:elT Tryz.prog 24=some 53:=by kernel_rfl
@[go_sem] theorem j6Y:jjA Tryz.prog 24=some 5:=by kernel_rfl
@[go_sem] theorem j4J:ja0 Tryz.prog 24=true:=by kernel_rfl
@[go_sem] theorem j7s:jcy Tryz.prog 25=some 1:=by kernel_rfl
@[go_sem] theorem j5L:jaT Tryz.prog 25=some false:=by kernel_rfl
@[go_sem] theorem j6P:elT Tryz.prog 25=some 100:=by kernel_rfl
@[go_sem] theorem j6Z:jjA Tryz.prog 25=some 5:=by kernel_rfl
@[go_sem] theorem j4K:ja0 Tryz.prog 25=true:=by kernel_rfl
@[go_sem] theorem j7t:jcy Tryz.prog 27=some 2:=by kernel_rfl
@[go_sem] theorem j5M:jaT Tryz.prog 27=some true:=by kernel_rfl
@[go_sem] theorem j7O:jbN Tryz.prog 27=some [.slice none 0 0,.slice none 0 0]:=by kernel_rfl
@[go_sem] theorem j1B:jcl Tryz.prog 27 0=some 0:=by kernel_rfl
@[go_sem] theorem j1C:jcl Tryz.prog 27 1=some 1:=by kernel_rfl
@[go_sem] theorem j7g:jcD Tryz.prog 27=some [(0,1),(1,1)]:=by kernel_rfl
@[go_sem] theorem j7u:jcy Tryz.prog 29=some 6:=by kernel_rfl
@[go_sem] theorem j5N:jaT Tryz.prog 29=some true:=by kernel_rfl
@[go_sem] theorem j7P:jbN Tryz.prog 29=some [.slice none 0 0,.slice none 0 0,.slice none 0 0,.slice none 0 0,.slice none 0 0,.slice none 0 0]:=by kernel_rfl
@[go_sem] theorem j1D:jcl Tryz.prog 29 0=some 0:=by kernel_rfl
@[go_sem] theorem j1E:jcl Tryz.prog 29 1=some 2:=by kernel_rfl
@[go_sem] theorem j1F:jcl Tryz.prog 29 2=some 3:=by kernel_rfl
@[go_sem] theorem j1G:jcl Tryz.prog 29 3=some 4:=by kernel_rfl
@[go_sem] theorem j1H:jcl Tryz.prog 29 4=some 5:=by kernel_rfl
@[go_sem] theorem j7h:jcD Tryz.prog 29=some [(0,2),(2,1),(3,1),(4,1),(5,1)]:=by kernel_rfl
@[go_sem] theorem j7v:jcy Tryz.prog 30=some 1:=by kernel_rfl
@[go_sem] theorem j5O:jaT Tryz.prog 30=some false:=by kernel_rfl
@[go_sem] theorem j7w:jcy Tryz.prog 35=some 1:=by kernel_rfl
@[go_sem] theorem j5P:jaT Tryz.prog 35=some false:=by kernel_rfl
@[go_sem] theorem j6Q:elT Tryz.prog 35=some 57:=by kernel_rfl
@[go_sem] theorem j60:jjA Tryz.prog 35=some 3:=by kernel_rfl
@[go_sem] theorem j4L:ja0 Tryz.prog 35=true:=by kernel_rfl
@[go_sem] theorem j7x:jcy Tryz.prog 36=some 1:=by kernel_rfl
@[go_sem] theorem j5Q:jaT Tryz.prog 36=some false:=by kernel_rfl
@[go_sem] theorem j6R:elT Tryz.prog 36=some 22:=by kernel_rfl
@[go_sem] theorem j61:jjA Tryz.prog 36=some 1:=by kernel_rfl
@[go_sem] theorem j4M:ja0 Tryz.prog 36=true:=by kernel_rfl
@[go_sem] theorem j7y:jcy Tryz.prog 37=some 1:=by kernel_rfl
@[go_sem] theorem j5R:jaT Tryz.prog 37=some false:=by kernel_rfl
@[go_sem] theorem j6S:elT Tryz.prog 37=some 9:=by kernel_rfl
@[go_sem] theorem j62:jjA Tryz.prog 37=some 1:=by kernel_rfl
@[go_sem] theorem j4N:ja0 Tryz.prog 37=true:=by kernel_rfl
@[go_sem] theorem j7z:jcy Tryz.prog 39=some 7:=by kernel_rfl
@[go_sem] theorem j5S:jaT Tryz.prog 39=some true:=by kernel_rfl
@[go_sem] theorem j7Q:jbN Tryz.prog 39=some [.slice none 0 0,.slice none 0 0,.int .i64 0,.slice none 0 0,.int .i64 0,.int .i64 0,.int .i64 0]:=by kernel_rfl
@[go_sem] theorem j1I:jcl Tryz.prog 39 0=some 0:=by kernel_rfl
@[go_sem] theorem j1J:jcl Tryz.prog 39 1=some 1:=by kernel_rfl
@[go_sem] theorem j1K:jcl Tryz.prog 39 2=some 2:=by kernel_rfl
@[go_sem] theorem j1L:jcl Tryz.prog 39 3=some 3:=by kernel_rfl
@[go_sem] theorem j1M:jcl Tryz.prog 39 4=some 4:=by kernel_rfl
@[go_sem] theorem j1N:jcl Tryz.prog 39 5=some 5:=by kernel_rfl
@[go_sem] theorem j1O:jcl Tryz.prog 39 6=some 6:=by kernel_rfl
@[go_sem] theorem j7A:jcy Tryz.prog 53=some 5:=by kernel_rfl
@[go_sem] theorem j5T:jaT Tryz.prog 53=some true:=by kernel_rfl
@[go_sem] theorem j7R:jbN Tryz.prog 53=some [.int .i64 0,.int .i64 0,.int .i64 0,.string ⟨#[]⟩,.slice none 0 0]:=by kernel_rfl
@[go_sem] theorem j1P:jcl Tryz.prog 53 0=some 0:=by kernel_rfl
@[go_sem] theorem j19:fTy Tryz.prog 53 0=some (3,0):=by kernel_rfl
@[go_sem] theorem j1Q:jcl Tryz.prog 53 1=some 1:=by kernel_rfl
@[go_sem] theorem j1R:jcl Tryz.prog 53 2=some 2:=by kernel_rfl
@[go_sem] theorem j1S:jcl Tryz.prog 53 3=some 3:=by kernel_rfl
@[go_sem] theorem j1T:jcl Tryz.prog 53 4=some 4:=by kernel_rfl
@[go_sem] theorem j2a:fTy Tryz.prog 53 4=some (22,4):=by kernel_rfl
@[go_sem] theorem j7i:jcD Tryz.prog 53=some [(0,1),(1,1),(2,1),(3,1),(4,1)]:=by kernel_rfl
@[go_sem] theorem j52:jcc Tryz.prog 53=64:=by kernel_rfl
@[go_sem] theorem j7B:jcy Tryz.prog 54=some 1:=by kernel_rfl
@[go_sem] theorem j5U:jaT Tryz.prog 54=some false:=by kernel_rfl
@[go_sem] theorem j6T:elT Tryz.prog 54=some 59:=by kernel_rfl
@[go_sem] theorem j63:jjA Tryz.prog 54=some 3:=by kernel_rfl
@[go_sem] theorem j4O:ja0 Tryz.prog 54=true:=by kernel_rfl
@[go_sem] theorem j7C:jcy Tryz.prog 55=some 1:=by kernel_rfl
@[go_sem] theorem j5V:jaT Tryz.prog 55=some false:=by kernel_rfl
@[go_sem] theorem j6U:elT Tryz.prog 55=some 89:=by kernel_rfl
@[go_sem] theorem j64:jjA Tryz.prog 55=some 2:=by kernel_rfl
@[go_sem] theorem j4P:ja0 Tryz.prog 55=true:=by kernel_rfl
@[go_sem] theorem j7D:jcy Tryz.prog 57=some 3:=by kernel_rfl
@[go_sem] theorem j5W:jaT Tryz.prog 57=some true:=by kernel_rfl
@[go_sem] theorem j7S:jbN Tryz.prog 57=some [.int .i64 0,.slice none 0 0,.slice none 0 0]:=by kernel_rfl
@[go_sem] theorem j1U:jcl Tryz.prog 57 0=some 0:=by kernel_rfl
@[go_sem] theorem j1V:jcl Tryz.prog 57 1=some 1:=by kernel_rfl
@[go_sem] theorem j1W:jcl Tryz.prog 57 2=some 2:=by kernel_rfl
@[go_sem] theorem j7j:jcD Tryz.prog 57=some [(0,1),(1,1),(2,1)]:=by kernel_rfl
@[go_sem] theorem j53:jcc Tryz.prog 57=56:=by kernel_rfl
@[go_sem] theorem j7E:jcy Tryz.prog 59=some 3:=by kernel_rfl
@[go_sem] theorem j5X:jaT Tryz.prog 59=some true:=by kernel_rfl
@[go_sem] theorem j7T:jbN Tryz.prog 59=some [.int .i64 0,.int .i64 0,.string ⟨#[]⟩]:=by kernel_rfl
@[go_sem] theorem j1X:jcl Tryz.prog 59 0=some 0:=by kernel_rfl
@[go_sem] theorem j1Y:jcl Tryz.prog 59 1=some 1:=by kernel_rfl
@[go_sem] theorem j1Z:jcl Tryz.prog 59 2=some 2:=by kernel_rfl
@[go_sem] theorem j7k:jcD Tryz.prog 59=some [(0,1),(1,1),(2,1)]:=by kernel_rfl
@[go_sem] theorem j4C:jkJ Tryz.prog 59=some [.int .i64,.int .i64,.str]:=by kernel_rfl
@[go_sem] theorem j4Q:ja0 Tryz.prog 59=false:=by kernel_rfl
@[go_sem] theorem j4T:jiR Tryz.prog 59=false:=by kernel_rfl
@[go_sem] theorem j4H:jiQ Tryz.prog 59=false:=by kernel_rfl
@[go_sem] theorem j54:jcc Tryz.prog 59=32:=by kernel_rfl
@[go_sem] theorem j7F:jcy Tryz.prog 60=some 1:=by kernel_rfl
@[go_sem] theorem j5Y:jaT Tryz.prog 60=some false:=by kernel_rfl
@[go_sem] theorem j6V:elT Tryz.prog 60=some 63:=by kernel_rfl
@[go_sem] theorem j65:jjA Tryz.prog 60=some 3:=by kernel_rfl
@[go_sem] theorem j4R:ja0 Tryz.prog 60=true:=by kernel_rfl
@[go_sem] theorem j7G:jcy Tryz.prog 63=some 3:=by kernel_rfl
@[go_sem] theorem j7U:jbN Tryz.prog 63=some [.string ⟨#[]⟩,.int .i64 0,.int .i64 0]:=by kernel_rfl
@[go_sem] theorem j10:jcl Tryz.prog 63 0=some 0:=by kernel_rfl
@[go_sem] theorem j11:jcl Tryz.prog 63 1=some 1:=by kernel_rfl
@[go_sem] theorem j12:jcl Tryz.prog 63 2=some 2:=by kernel_rfl
@[go_sem] theorem j7l:jcD Tryz.prog 63=some [(0,1),(1,1),(2,1)]:=by kernel_rfl
@[go_sem] theorem j55:jcc Tryz.prog 63=32:=by kernel_rfl
@[go_sem] theorem j7H:jcy Tryz.prog 89=some 2:=by kernel_rfl
@[go_sem] theorem j7V:jbN Tryz.prog 89=some [.int .i64 0,.int .i64 0]:=by kernel_rfl
@[go_sem] theorem j13:jcl Tryz.prog 89 0=some 0:=by kernel_rfl
@[go_sem] theorem j14:jcl Tryz.prog 89 1=some 1:=by kernel_rfl
@[go_sem] theorem j7m:jcD Tryz.prog 89=some [(0,1),(1,1)]:=by kernel_rfl
@[go_sem] theorem j56:jcc Tryz.prog 89=16:=by kernel_rfl
@[go_sem] theorem j7I:jcy Tryz.prog 93=some 1:=by kernel_rfl
@[go_sem] theorem j5Z:jaT Tryz.prog 93=some false:=by kernel_rfl
@[go_sem] theorem j7W:jbN Tryz.prog 95=some [.slice none 0 0,.slice none 0 0,.slice none 0 0,.slice none 0 0,.slice none 0 0,.slice none 0 0,.slice none 0 0,.slice none 0 0,.int .i64 0,.slice none 0 0,.int .i64 0,.int .i64 0,.int .i64 0,.slice none 0 0,.int .i64 0]:=by kernel_rfl
@[go_sem] theorem j15:jcl Tryz.prog 95 0=some 0:=by kernel_rfl
@[go_sem] theorem j16:jcl Tryz.prog 95 1=some 6:=by kernel_rfl
@[go_sem] theorem j17:jcl Tryz.prog 95 2=some 13:=by kernel_rfl
@[go_sem] theorem j18:jcl Tryz.prog 95 3=some 14:=by kernel_rfl
@[go_sem] theorem j7n:jcD Tryz.prog 95=some [(0,6),(6,7),(13,1),(14,1)]:=by kernel_rfl
@[go_sem] theorem j7J:jcy Tryz.prog 98=some 1:=by kernel_rfl
@[go_sem] theorem j50:jaT Tryz.prog 98=some false:=by kernel_rfl
@[go_sem] theorem j6W:elT Tryz.prog 98=some 111:=by kernel_rfl
@[go_sem] theorem j66:jjA Tryz.prog 98=some 2:=by kernel_rfl
@[go_sem] theorem j4S:ja0 Tryz.prog 98=true:=by kernel_rfl
@[go_sem] theorem j47:jcy Tryz.prog 100=some 5:=by kernel_rfl
@[go_sem] theorem j2Y:jaT Tryz.prog 100=some true:=by kernel_rfl
@[go_sem] theorem j5C:jbN Tryz.prog 100=some [.string ⟨#[]⟩,.int .i64 0,.slice none 0 0,.int .i64 0,.int .i64 0]:=by kernel_rfl
@[go_sem] theorem j0h:jcl Tryz.prog 100 0=some 0:=by kernel_rfl
@[go_sem] theorem j0i:jcl Tryz.prog 100 2=some 2:=by kernel_rfl
@[go_sem] theorem j0j:jcl Tryz.prog 100 3=some 3:=by kernel_rfl
@[go_sem] theorem j0k:jcl Tryz.prog 100 4=some 4:=by kernel_rfl
@[go_sem] theorem j4Z:jcD Tryz.prog 100=some [(0,1),(1,1),(2,1),(3,1),(4,1)]:=by kernel_rfl
@[go_sem] theorem j24:jcc Tryz.prog 100=64:=by kernel_rfl
@[go_sem] theorem j48:jcy Tryz.prog 111=some 2:=by kernel_rfl
@[go_sem] theorem j5D:jbN Tryz.prog 111=some [.string ⟨#[]⟩,.int .i64 0]:=by kernel_rfl
@[go_sem] theorem j0l:jcl Tryz.prog 111 0=some 0:=by kernel_rfl
@[go_sem] theorem j0m:jcl Tryz.prog 111 1=some 1:=by kernel_rfl
@[go_sem] theorem j40:jcD Tryz.prog 111=some [(0,1),(1,1)]:=by kernel_rfl
@[go_sem] theorem j25:jcc Tryz.prog 111=24:=by kernel_rfl
@[go_sem] theorem j49:jcy Tryz.prog 162=some 1:=by kernel_rfl
@[go_sem] theorem j2Z:jaT Tryz.prog 162=some false:=by kernel_rfl
@[go_sem] theorem j4B:elT Tryz.prog 162=some 216:=by kernel_rfl
@[go_sem] theorem j4D:jjA Tryz.prog 162=some 3:=by kernel_rfl
@[go_sem] theorem j5E:jbN Tryz.prog 167=some [.string ⟨#[]⟩,.slice none 0 0,.int .i64 0,.slice none 0 0,.int .i64 0,.int .i64 0,.int .i64 0]:=by kernel_rfl
@[go_sem] theorem j0n:jcl Tryz.prog 167 0=some 0:=by kernel_rfl
@[go_sem] theorem j0o:jcl Tryz.prog 167 1=some 1:=by kernel_rfl
@[go_sem] theorem j0p:jcl Tryz.prog 167 2=some 2:=by kernel_rfl
@[go_sem] theorem j0q:jcl Tryz.prog 167 3=some 3:=by kernel_rfl
@[go_sem] theorem j0r:jcl Tryz.prog 167 4=some 4:=by kernel_rfl
@[go_sem] theorem j0s:jcl Tryz.prog 167 5=some 5:=by kernel_rfl
@[go_sem] theorem j0t:jcl Tryz.prog 167 6=some 6:=by kernel_rfl
@[go_sem] theorem j41:jcD Tryz.prog 167=some [(0,1),(1,1),(2,1),(3,1),(4,1),(5,1),(6,1)]:=by kernel_rfl
@[go_sem] theorem j5F:jbN Tryz.prog 172=some [.slice none 0 0,.slice none 0 0,.slice none 0 0,.slice none 0 0,.slice none 0 0,.slice none 0 0,.int .i64 0,.slice none 0 0,.int .i64 0,.int .i64 0,.int .i64 0]:=by kernel_rfl
@[go_sem] theorem j0u:jcl Tryz.prog 172 0=some 0:=by kernel_rfl
@[go_sem] theorem j0v:jcl Tryz.prog 172 1=some 6:=by kernel_rfl
@[go_sem] theorem j0w:jcl Tryz.prog 172 2=some 7:=by kernel_rfl
@[go_sem] theorem j0x:jcl Tryz.prog 172 3=some 8:=by kernel_rfl
@[go_sem] theorem j0y:jcl Tryz.prog 172 4=some 9:=by kernel_rfl
@[go_sem] theorem j0z:jcl Tryz.prog 172 5=some 10:=by kernel_rfl
@[go_sem] theorem j42:jcD Tryz.prog 172=some [(0,6),(6,1),(7,1),(8,1),(9,1),(10,1)]:=by kernel_rfl
@[go_sem] theorem j5a:jcy Tryz.prog 216=some 3:=by kernel_rfl
@[go_sem] theorem j20:jaT Tryz.prog 216=some true:=by kernel_rfl
@[go_sem] theorem j5G:jbN Tryz.prog 216=some [.int .i64 0,.string ⟨#[]⟩,.int .i64 0]:=by kernel_rfl
@[go_sem] theorem j0A:jcl Tryz.prog 216 0=some 0:=by kernel_rfl
@[go_sem] theorem j0B:jcl Tryz.prog 216 1=some 1:=by kernel_rfl
@[go_sem] theorem j0C:jcl Tryz.prog 216 2=some 2:=by kernel_rfl
@[go_sem] theorem j43:jcD Tryz.prog 216=some [(0,1),(1,1),(2,1)]:=by kernel_rfl
@[go_sem] theorem j26:jcc Tryz.prog 216=32:=by kernel_rfl
@[go_sem] theorem j5b:jcy Tryz.prog 272=some 1:=by kernel_rfl
@[go_sem] theorem j21:jaT Tryz.prog 272=some false:=by kernel_rfl
@[go_sem] theorem j5H:jbN Tryz.prog 274=some [.slice none 0 0,.slice none 0 0,.slice none 0 0,.slice none 0 0,.slice none 0 0,.slice none 0 0,.slice none 0 0,.slice none 0 0,.int .i64 0]:=by kernel_rfl
@[go_sem] theorem j0D:jcl Tryz.prog 274 0=some 0:=by kernel_rfl
@[go_sem] theorem j0E:jcl Tryz.prog 274 1=some 6:=by kernel_rfl
@[go_sem] theorem j0F:jcl Tryz.prog 274 2=some 7:=by kernel_rfl
@[go_sem] theorem j0G:jcl Tryz.prog 274 3=some 8:=by kernel_rfl
@[go_sem] theorem j44:jcD Tryz.prog 274=some [(0,6),(6,1),(7,1),(8,1)]:=by kernel_rfl
@[go_sem] theorem j58:jad Tryz.prog 15=true:=by kernel_rfl
@[go_sem] theorem j59:jad Tryz.prog 16=true:=by kernel_rfl
@[go_sem] theorem j6a:jad Tryz.prog 17=true:=by kernel_rfl
@[go_sem] theorem j6b:jad Tryz.prog 18=true:=by kernel_rfl
@[go_sem] theorem j6c:jad Tryz.prog 19=true:=by kernel_rfl
@[go_sem] theorem j6d:jad Tryz.prog 22=true:=by kernel_rfl
@[go_sem] theorem j6e:jad Tryz.prog 24=true:=by kernel_rfl
@[go_sem] theorem j6f:jad Tryz.prog 26=true:=by kernel_rfl
@[go_sem] theorem j6g:jad Tryz.prog 28=true:=by kernel_rfl
@[go_sem] theorem j6h:jad Tryz.prog 30=true:=by kernel_rfl
@[go_sem] theorem j6i:jad Tryz.prog 31=true:=by kernel_rfl
@[go_sem] theorem j6j:jad Tryz.prog 53=true:=by kernel_rfl
@[go_sem] theorem j6k:jad Tryz.prog 54=true:=by kernel_rfl
@[go_sem] theorem j6l:jad Tryz.prog 55=true:=by kernel_rfl
@[go_sem] theorem j6m:jad Tryz.prog 56=true:=by kernel_rfl
@[go_sem] theorem j6n:jad Tryz.prog 57=true:=by kernel_rfl
@[go_sem] theorem j6o:jad Tryz.prog 58=true:=by kernel_rfl
@[go_sem] theorem j6p:jad Tryz.prog 62=true:=by kernel_rfl
@[go_sem] theorem j6q:jad Tryz.prog 64=true:=by kernel_rfl
@[go_sem] theorem j6r:jad Tryz.prog 65=true:=by kernel_rfl
@[go_sem] theorem j6s:jad Tryz.prog 66=true:=by kernel_rfl
@[go_sem] theorem j6t:jad Tryz.prog 68=true:=by kernel_rfl
@[go_sem] theorem j6u:jad Tryz.prog 80=true:=by kernel_rfl
@[go_sem] theorem j6v:jad Tryz.prog 81=true:=by kernel_rfl
@[go_sem] theorem j6w:jad Tryz.prog 91=true:=by kernel_rfl
@[go_sem] theorem j6x:jad Tryz.prog 93=true:=by kernel_rfl
@[go_sem] theorem j6y:jad Tryz.prog 94=true:=by kernel_rfl
@[go_sem] theorem j6z:jad Tryz.prog 95=true:=by kernel_rfl
@[go_sem] theorem j6A:jad Tryz.prog 96=true:=by kernel_rfl
@[go_sem] theorem j6B:jad Tryz.prog 97=true:=by kernel_rfl
@[go_sem] theorem j6C:jad Tryz.prog 98=true:=by kernel_rfl
@[go_sem] theorem j6D:jad Tryz.prog 99=true:=by kernel_rfl
@[go_sem] theorem j27:jad Tryz.prog 100=true:=by kernel_rfl
@[go_sem] theorem j28:jad Tryz.prog 101=true:=by kernel_rfl
@[go_sem] theorem j29:jad Tryz.prog 102=true:=by kernel_rfl
@[go_sem] theorem j3a:jad Tryz.prog 105=true:=by kernel_rfl
@[go_sem] theorem j3b:jad Tryz.prog 106=true:=by kernel_rfl
@[go_sem] theorem j3c:jad Tryz.prog 107=true:=by kernel_rfl
@[go_sem] theorem j3d:jad Tryz.prog 108=true:=by kernel_rfl
@[go_sem] theorem j3e:jad Tryz.prog 109=true:=by kernel_rfl
@[go_sem] theorem j3f:jad Tryz.prog 110=true:=by kernel_rfl
@[go_sem] theorem j3g:jad Tryz.prog 111=true:=by kernel_rfl
@[go_sem] theorem j3h:jad Tryz.prog 112=true:=by kernel_rfl
@[go_sem] theorem j3i:jad Tryz.prog 113=true:=by kernel_rfl
@[go_sem] theorem j3j:jad Tryz.prog 114=true:=by kernel_rfl
@[go_sem] theorem j3k:jad Tryz.prog 115=true:=by kernel_rfl
@[go_sem] theorem j3l:jad Tryz.prog 142=true:=by kernel_rfl
@[go_sem] theorem j3m:jad Tryz.prog 143=true:=by kernel_rfl
@[go_sem] theorem j3n:jad Tryz.prog 144=true:=by kernel_rfl
@[go_sem] theorem j3o:jad Tryz.prog 145=true:=by kernel_rfl
@[go_sem] theorem j3p:jad Tryz.prog 146=true:=by kernel_rfl
@[go_sem] theorem j3q:jad Tryz.prog 147=true:=by kernel_rfl
@[go_sem] theorem j3r:jad Tryz.prog 148=true:=by kernel_rfl
@[go_sem] theorem j3s:jad Tryz.prog 149=true:=by kernel_rfl
@[go_sem] theorem j3t:jad Tryz.prog 150=true:=by kernel_rfl
@[go_sem] theorem j3u:jad Tryz.prog 151=true:=by kernel_rfl
@[go_sem] theorem j3v:jad Tryz.prog 152=true:=by kernel_rfl
@[go_sem] theorem j3w:jad Tryz.prog 153=true:=by kernel_rfl
@[go_sem] theorem j3x:jad Tryz.prog 154=true:=by kernel_rfl
@[go_sem] theorem j3y:jad Tryz.prog 155=true:=by kernel_rfl
@[go_sem] theorem j3z:jad Tryz.prog 156=true:=by kernel_rfl
@[go_sem] theorem j3A:jad Tryz.prog 157=true:=by kernel_rfl
@[go_sem] theorem j3B:jad Tryz.prog 158=true:=by kernel_rfl
@[go_sem] theorem j3C:jad Tryz.prog 159=true:=by kernel_rfl
@[go_sem] theorem j3D:jad Tryz.prog 160=true:=by kernel_rfl
@[go_sem] theorem j3E:jad Tryz.prog 161=true:=by kernel_rfl
@[go_sem] theorem j3F:jad Tryz.prog 172=true:=by kernel_rfl
@[go_sem] theorem j3G:jad Tryz.prog 173=true:=by kernel_rfl
@[go_sem] theorem j3H:jad Tryz.prog 177=true:=by kernel_rfl
@[go_sem] theorem j3I:jad Tryz.prog 178=true:=by kernel_rfl
@[go_sem] theorem j3J:jad Tryz.prog 197=true:=by kernel_rfl
@[go_sem] theorem j3K:jad Tryz.prog 203=true:=by kernel_rfl
@[go_sem] theorem j3L:jad Tryz.prog 204=true:=by kernel_rfl
@[go_sem] theorem j3M:jad Tryz.prog 205=true:=by kernel_rfl
@[go_sem] theorem j3N:jad Tryz.prog 206=true:=by kernel_rfl
@[go_sem] theorem j3O:jad Tryz.prog 207=true:=by kernel_rfl
@[go_sem] theorem j3P:jad Tryz.prog 208=true:=by kernel_rfl
@[go_sem] theorem j3Q:jad Tryz.prog 209=true:=by kernel_rfl
@[go_sem] theorem j3R:jad Tryz.prog 210=true:=by kernel_rfl
@[go_sem] theorem j3S:jad Tryz.prog 211=true:=by kernel_rfl
@[go_sem] theorem j3T:jad Tryz.prog 212=true:=by kernel_rfl
@[go_sem] theorem j3U:jad Tryz.prog 213=true:=by kernel_rfl
@[go_sem] theorem j3V:jad Tryz.prog 214=true:=by kernel_rfl
@[go_sem] theorem j3W:jad Tryz.prog 215=true:=by kernel_rfl
@[go_sem] theorem j3X:jad Tryz.prog 216=true:=by kernel_rfl
@[go_sem] theorem j3Y:jad Tryz.prog 217=true:=by kernel_rfl
@[go_sem] theorem j3Z:jad Tryz.prog 218=true:=by kernel_rfl
@[go_sem] theorem j30:jad Tryz.prog 226=true:=by kernel_rfl
@[go_sem] theorem j31:jad Tryz.prog 227=true:=by kernel_rfl
@[go_sem] theorem j32:jad Tryz.prog 228=true:=by kernel_rfl
@[go_sem] theorem j33:jad Tryz.prog 247=true:=by kernel_rfl
@[go_sem] theorem j34:jad Tryz.prog 248=true:=by kernel_rfl
@[go_sem] theorem j35:jad Tryz.prog 249=true:=by kernel_rfl
@[go_sem] theorem j36:jad Tryz.prog 250=true:=by kernel_rfl
@[go_sem] theorem j37:jad Tryz.prog 251=true:=by kernel_rfl
@[go_sem] theorem j38:jad Tryz.prog 252=true:=by kernel_rfl
@[go_sem] theorem j39:jad Tryz.prog 253=true:=by kernel_rfl
@[go_sem] theorem j4a:jad Tryz.prog 254=true:=by kernel_rfl
@[go_sem] theorem j4b:jad Tryz.prog 255=true:=by kernel_rfl
@[go_sem] theorem j4c:jad Tryz.prog 261=true:=by kernel_rfl
@[go_sem] theorem j4d:jad Tryz.prog 269=true:=by kernel_rfl
@[go_sem] theorem j4e:jad Tryz.prog 270=true:=by kernel_rfl
@[go_sem] theorem j4f:jad Tryz.prog 271=true:=by kernel_rfl
@[go_sem] theorem j4g:jad Tryz.prog 272=true:=by kernel_rfl
@[go_sem] theorem j4h:jad Tryz.prog 273=true:=by kernel_rfl
@[go_sem] theorem j4i:jad Tryz.prog 274=true:=by kernel_rfl
@[go_sem] theorem j4j:jad Tryz.prog 275=true:=by kernel_rfl
@[go_sem] theorem j4k:jad Tryz.prog 276=true:=by kernel_rfl
@[go_sem] theorem j4l:jad Tryz.prog 277=true:=by kernel_rfl
@[go_sem] theorem j4m:jad Tryz.prog 278=true:=by kernel_rfl
@[go_sem] theorem j4n:jad Tryz.prog 282=true:=by kernel_rfl
@[go_sem] theorem j4o:jad Tryz.prog 283=true:=by kernel_rfl
@[go_sem] theorem j4p:jad Tryz.prog 284=true:=by kernel_rfl
@[go_sem] theorem j4q:jad Tryz.prog 285=true:=by kernel_rfl
@[go_sem] theorem j4r:jad Tryz.prog 286=true:=by kernel_rfl
@[go_sem] theorem j4s:jad Tryz.prog 287=true:=by kernel_rfl
@[go_sem] theorem j4t:jad Tryz.prog 288=true:=by kernel_rfl
@[go_sem] theorem j4u:jad Tryz.prog 289=true:=by kernel_rfl
@[go_sem] theorem j4v:jad Tryz.prog 290=true:=by kernel_rfl
@[go_sem] theorem j4w:jad Tryz.prog 291=true:=by kernel_rfl
theorem mixed:Tryz.prog.follows .mixedOrders=true:=by kernel_rfl
theorem jay:juj Tryz.prog 186=some (false,184):=by kernel_rfl
end Go.Proofs.YtfkgcobaheegbaaGreatDoor
