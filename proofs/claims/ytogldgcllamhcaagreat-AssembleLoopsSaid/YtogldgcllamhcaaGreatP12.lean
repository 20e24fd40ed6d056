/-
Own laws and walks for the claim, part 12: KzV3. No condition.
-/
import Derived.Test.YtogldgcllamhcaaGreatP8
namespace Go.Proofs.YtogldgcllamhcaaGreat.Sx.Kx
open Go
set_option linter.unusedVariables false
set_option linter.unusedSimpArgs false
theorem k22:Q 126 7:=fun y=>by kernel_rfl
theorem k23:Q 133 6:=fun y=>by kernel_rfl
theorem k24:Q 139 4:=fun y=>by kernel_rfl
theorem k25:Q 143 6:=fun y=>by kernel_rfl
theorem k26:Q 149 5:=fun y=>by kernel_rfl
theorem k27:Q 154 5:=fun y=>by kernel_rfl
theorem k28:Q 159 5:=fun y=>by kernel_rfl
end Go.Proofs.YtogldgcllamhcaaGreat.Sx.Kx
