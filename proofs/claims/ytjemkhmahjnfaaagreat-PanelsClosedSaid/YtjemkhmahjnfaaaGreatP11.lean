/-
Own laws and walks for the claim, part 11: KzV2. No condition.
-/
import Derived.Test.YtjemkhmahjnfaaaGreatP8
namespace Go.Proofs.YtjemkhmahjnfaaaGreat.Sx.Kx
open Go
set_option linter.unusedVariables false
set_option linter.unusedSimpArgs false
theorem XB:jd [(4,1),(2,0),(2,0),(3,0)]=true:=by kernel_rfl
theorem XC:jd [(4,1),(2,0),(2,0),(3,1)]=true:=by kernel_rfl
theorem XD:jd [(4,1),(2,0),(2,0),(3,2)]=true:=by kernel_rfl
theorem XE:jd [(4,1),(2,0),(2,1),(3,0)]=true:=by kernel_rfl
theorem XF:jd [(4,1),(2,0),(2,1),(3,1)]=true:=by kernel_rfl
theorem XG:jd [(4,1),(2,0),(2,1),(3,2)]=true:=by kernel_rfl
end Go.Proofs.YtjemkhmahjnfaaaGreat.Sx.Kx
