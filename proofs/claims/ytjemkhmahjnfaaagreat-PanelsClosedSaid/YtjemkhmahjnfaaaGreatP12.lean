/-
Own laws and walks for the claim, part 12: KzV3. No condition.
-/
import Derived.Test.YtjemkhmahjnfaaaGreatP8
namespace Go.Proofs.YtjemkhmahjnfaaaGreat.Sx.Kx
open Go
set_option linter.unusedVariables false
set_option linter.unusedSimpArgs false
theorem XH:jd [(4,1),(2,1),(2,0),(3,0)]=true:=by kernel_rfl
theorem XI:jd [(4,1),(2,1),(2,0),(3,1)]=true:=by kernel_rfl
theorem XJ:jd [(4,1),(2,1),(2,0),(3,2)]=true:=by kernel_rfl
theorem XK:jd [(4,1),(2,1),(2,1),(3,0)]=true:=by kernel_rfl
theorem XL:jd [(4,1),(2,1),(2,1),(3,1)]=true:=by kernel_rfl
theorem XM:jd [(4,1),(2,1),(2,1),(3,2)]=true:=by kernel_rfl
end Go.Proofs.YtjemkhmahjnfaaaGreat.Sx.Kx
