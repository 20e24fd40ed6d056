/-
Own laws and walks for the claim, part 15: KzV6. No condition.
-/
import Derived.Test.YtjemkhmahjnfaaaGreatP8
namespace Go.Proofs.YtjemkhmahjnfaaaGreat.Sx.Kx
open Go
set_option linter.unusedVariables false
set_option linter.unusedSimpArgs false
theorem Y0:jd [(4,3),(2,0),(2,0),(3,0)]=true:=by kernel_rfl
theorem Y1:jd [(4,3),(2,0),(2,0),(3,1)]=true:=by kernel_rfl
theorem Y2:jd [(4,3),(2,0),(2,0),(3,2)]=true:=by kernel_rfl
theorem Y3:jd [(4,3),(2,0),(2,1),(3,0)]=true:=by kernel_rfl
theorem Y4:jd [(4,3),(2,0),(2,1),(3,1)]=true:=by kernel_rfl
theorem Y5:jd [(4,3),(2,0),(2,1),(3,2)]=true:=by kernel_rfl
end Go.Proofs.YtjemkhmahjnfaaaGreat.Sx.Kx
