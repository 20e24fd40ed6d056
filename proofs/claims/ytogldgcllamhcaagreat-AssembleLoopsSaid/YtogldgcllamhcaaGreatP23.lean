/-
Own laws and walks for the claim, part 23: KzV14. No condition.
-/
import Derived.Test.YtogldgcllamhcaaGreatP8
namespace Go.Proofs.YtogldgcllamhcaaGreat.Sx.Kx
open Go
set_option linter.unusedVariables false
set_option linter.unusedSimpArgs false
theorem k105:Q 463 4:=fun y=>by kernel_rfl
theorem k106:Q 467 3:=fun y=>by kernel_rfl
theorem k107:Q 470 4:=fun y=>by kernel_rfl
theorem k108:Q 474 3:=fun y=>by kernel_rfl
theorem k109:Q 477 3:=fun y=>by kernel_rfl
theorem k110:Q 480 4:=fun y=>by kernel_rfl
theorem k111:Q 484 3:=fun y=>by kernel_rfl
end Go.Proofs.YtogldgcllamhcaaGreat.Sx.Kx
