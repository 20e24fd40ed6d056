/-
Own laws and walks for the claim, part 9: KzV0. No condition.
-/
import Derived.Test.YtjemkhmahjnfaaaGreatP8
namespace Go.Proofs.YtjemkhmahjnfaaaGreat.Sx.Kx
open Go
set_option linter.unusedVariables false
set_option linter.unusedSimpArgs false
theorem Xp:jd [(4,0),(2,0),(2,0),(3,0)]=true:=by kernel_rfl
theorem Xq:jd [(4,0),(2,0),(2,0),(3,1)]=true:=by kernel_rfl
theorem Xr:jd [(4,0),(2,0),(2,0),(3,2)]=true:=by kernel_rfl
theorem Xs:jd [(4,0),(2,0),(2,1),(3,0)]=true:=by kernel_rfl
theorem Xt:jd [(4,0),(2,0),(2,1),(3,1)]=true:=by kernel_rfl
theorem Xu:jd [(4,0),(2,0),(2,1),(3,2)]=true:=by kernel_rfl
end Go.Proofs.YtjemkhmahjnfaaaGreat.Sx.Kx
