/-
Own laws and walks for the claim, part 22: KzV13. No condition.
-/
import Derived.Test.YtogldgcllamhcaaGreatP8
namespace Go.Proofs.YtogldgcllamhcaaGreat.Sx.Kx
open Go
set_option linter.unusedVariables false
set_option linter.unusedSimpArgs false
theorem k97:Q 431 4:=fun y=>by kernel_rfl
theorem k98:Q 435 4:=fun y=>by kernel_rfl
theorem k99:Q 439 4:=fun y=>by kernel_rfl
theorem k100:Q 443 4:=fun y=>by kernel_rfl
theorem k101:Q 447 5:=fun y=>by kernel_rfl
theorem k102:Q 452 4:=fun y=>by kernel_rfl
theorem k103:Q 456 4:=fun y=>by kernel_rfl
theorem k104:Q 460 3:=fun y=>by kernel_rfl
end Go.Proofs.YtogldgcllamhcaaGreat.Sx.Kx
