/-
Own laws and walks for the claim, part 9: KzV0. No condition.
-/
import Derived.Test.YtogldgcllamhcaaGreatP8
namespace Go.Proofs.YtogldgcllamhcaaGreat.Sx.Kx
open Go
set_option linter.unusedVariables false
set_option linter.unusedSimpArgs false
theorem k0:Q 0 13:=fun y=>by kernel_rfl
theorem k1:Q 13 8:=fun y=>by kernel_rfl
theorem k2:Q 21 7:=fun y=>by kernel_rfl
theorem k3:Q 28 7:=fun y=>by kernel_rfl
theorem k4:Q 35 7:=fun y=>by kernel_rfl
theorem k5:Q 42 5:=fun y=>by kernel_rfl
theorem k6:Q 47 6:=fun y=>by kernel_rfl
theorem k7:Q 53 6:=fun y=>by kernel_rfl
end Go.Proofs.YtogldgcllamhcaaGreat.Sx.Kx
