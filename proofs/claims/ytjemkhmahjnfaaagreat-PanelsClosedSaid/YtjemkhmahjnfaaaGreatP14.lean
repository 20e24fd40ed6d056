/-
Own laws and walks for the claim, part 14: KzV5. No condition.
-/
import Derived.Test.YtjemkhmahjnfaaaGreatP8
namespace Go.Proofs.YtjemkhmahjnfaaaGreat.Sx.Kx
open Go
set_option linter.unusedVariables false
set_option linter.unusedSimpArgs false
theorem XT:jd [(4,2),(2,1),(2,0),(3,0)]=true:=by kernel_rfl
theorem XU:jd [(4,2),(2,1),(2,0),(3,1)]=true:=by kernel_rfl
theorem XW:jd [(4,2),(2,1),(2,0),(3,2)]=true:=by kernel_rfl
theorem XX:jd [(4,2),(2,1),(2,1),(3,0)]=true:=by kernel_rfl
theorem XY:jd [(4,2),(2,1),(2,1),(3,1)]=true:=by kernel_rfl
theorem XZ:jd [(4,2),(2,1),(2,1),(3,2)]=true:=by kernel_rfl
end Go.Proofs.YtjemkhmahjnfaaaGreat.Sx.Kx
