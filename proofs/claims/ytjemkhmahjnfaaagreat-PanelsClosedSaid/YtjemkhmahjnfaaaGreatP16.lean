/-
Own laws and walks for the claim, part 16: KzV7. No condition.
-/
import Derived.Test.YtjemkhmahjnfaaaGreatP8
namespace Go.Proofs.YtjemkhmahjnfaaaGreat.Sx.Kx
open Go
set_option linter.unusedVariables false
set_option linter.unusedSimpArgs false
theorem Y6:jd [(4,3),(2,1),(2,0),(3,0)]=true:=by kernel_rfl
theorem Y7:jd [(4,3),(2,1),(2,0),(3,1)]=true:=by kernel_rfl
theorem Y8:jd [(4,3),(2,1),(2,0),(3,2)]=true:=by kernel_rfl
theorem Y9:jd [(4,3),(2,1),(2,1),(3,0)]=true:=by kernel_rfl
theorem Ya:jd [(4,3),(2,1),(2,1),(3,1)]=true:=by kernel_rfl
theorem Yb:jd [(4,3),(2,1),(2,1),(3,2)]=true:=by kernel_rfl
end Go.Proofs.YtjemkhmahjnfaaaGreat.Sx.Kx
