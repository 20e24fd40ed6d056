/-
Own laws and walks for the claim, part 14: KzV5. No condition.
-/
import Derived.Test.YtogldgcllamhcaaGreatP8
namespace Go.Proofs.YtogldgcllamhcaaGreat.Sx.Kx
open Go
set_option linter.unusedVariables false
set_option linter.unusedSimpArgs false
theorem k37:Q 197 5:=fun y=>by kernel_rfl
theorem k38:Q 202 4:=fun y=>by kernel_rfl
theorem k39:Q 206 5:=fun y=>by kernel_rfl
theorem k40:Q 211 4:=fun y=>by kernel_rfl
theorem k41:Q 215 5:=fun y=>by kernel_rfl
theorem k42:Q 220 4:=fun y=>by kernel_rfl
theorem k43:Q 224 4:=fun y=>by kernel_rfl
end Go.Proofs.YtogldgcllamhcaaGreat.Sx.Kx
