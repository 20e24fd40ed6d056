/-
Own laws and walks for the claim, part 10: KzV1. No condition.
-/
import Derived.Test.YtogldgcllamhcaaGreatP8
namespace Go.Proofs.YtogldgcllamhcaaGreat.Sx.Kx
open Go
set_option linter.unusedVariables false
set_option linter.unusedSimpArgs false
theorem k8:Q 59 6:=fun y=>by kernel_rfl
theorem k9:Q 65 7:=fun y=>by kernel_rfl
theorem k10:Q 72 6:=fun y=>by kernel_rfl
theorem k11:Q 78 5:=fun y=>by kernel_rfl
theorem k12:Q 83 4:=fun y=>by kernel_rfl
theorem k13:Q 87 5:=fun y=>by kernel_rfl
theorem k14:Q 92 5:=fun y=>by kernel_rfl
end Go.Proofs.YtogldgcllamhcaaGreat.Sx.Kx
