/-
Own laws and walks for the claim, part 13: KzV4. No condition.
-/
import Derived.Test.YtjemkhmahjnfaaaGreatP8
namespace Go.Proofs.YtjemkhmahjnfaaaGreat.Sx.Kx
open Go
set_option linter.unusedVariables false
set_option linter.unusedSimpArgs false
theorem XN:jd [(4,2),(2,0),(2,0),(3,0)]=true:=by kernel_rfl
theorem XO:jd [(4,2),(2,0),(2,0),(3,1)]=true:=by kernel_rfl
theorem XP:jd [(4,2),(2,0),(2,0),(3,2)]=true:=by kernel_rfl
theorem XQ:jd [(4,2),(2,0),(2,1),(3,0)]=true:=by kernel_rfl
theorem XR:jd [(4,2),(2,0),(2,1),(3,1)]=true:=by kernel_rfl
theorem XS:jd [(4,2),(2,0),(2,1),(3,2)]=true:=by kernel_rfl
end Go.Proofs.YtjemkhmahjnfaaaGreat.Sx.Kx
