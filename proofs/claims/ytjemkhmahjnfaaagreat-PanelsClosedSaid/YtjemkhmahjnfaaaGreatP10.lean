/-
Own laws and walks for the claim, part 10: KzV1. No condition.
-/
import Derived.Test.YtjemkhmahjnfaaaGreatP8
namespace Go.Proofs.YtjemkhmahjnfaaaGreat.Sx.Kx
open Go
set_option linter.unusedVariables false
set_option linter.unusedSimpArgs false
theorem Xv:jd [(4,0),(2,1),(2,0),(3,0)]=true:=by kernel_rfl
theorem Xw:jd [(4,0),(2,1),(2,0),(3,1)]=true:=by kernel_rfl
theorem Xx:jd [(4,0),(2,1),(2,0),(3,2)]=true:=by kernel_rfl
theorem Xy:jd [(4,0),(2,1),(2,1),(3,0)]=true:=by kernel_rfl
theorem Xz:jd [(4,0),(2,1),(2,1),(3,1)]=true:=by kernel_rfl
theorem XA:jd [(4,0),(2,1),(2,1),(3,2)]=true:=by kernel_rfl
end Go.Proofs.YtjemkhmahjnfaaaGreat.Sx.Kx
