/-
Own laws and walks for the claim, part 11: KzV2. No condition.
-/
import Derived.Test.YtogldgcllamhcaaGreatP8
namespace Go.Proofs.YtogldgcllamhcaaGreat.Sx.Kx
open Go
set_option linter.unusedVariables false
set_option linter.unusedSimpArgs false
theorem k15:Q 97 5:=fun y=>by kernel_rfl
theorem k16:Q 102 4:=fun y=>by kernel_rfl
theorem k17:Q 106 4:=fun y=>by kernel_rfl
theorem k18:Q 110 4:=fun y=>by kernel_rfl
theorem k19:Q 114 4:=fun y=>by kernel_rfl
theorem k20:Q 118 4:=fun y=>by kernel_rfl
theorem k21:Q 122 4:=fun y=>by kernel_rfl
end Go.Proofs.YtogldgcllamhcaaGreat.Sx.Kx
