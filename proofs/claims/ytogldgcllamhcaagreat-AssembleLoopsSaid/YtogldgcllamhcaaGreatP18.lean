/-
Own laws and walks for the claim, part 18: KzV9. No condition.
-/
import Derived.Test.YtogldgcllamhcaaGreatP8
namespace Go.Proofs.YtogldgcllamhcaaGreat.Sx.Kx
open Go
set_option linter.unusedVariables false
set_option linter.unusedSimpArgs false
theorem k67:Q 326 4:=fun y=>by kernel_rfl
theorem k68:Q 330 4:=fun y=>by kernel_rfl
theorem k69:Q 334 3:=fun y=>by kernel_rfl
theorem k70:Q 337 3:=fun y=>by kernel_rfl
theorem k71:Q 340 2:=fun y=>by kernel_rfl
theorem k72:Q 342 3:=fun y=>by kernel_rfl
theorem k73:Q 345 3:=fun y=>by kernel_rfl
theorem k74:Q 348 3:=fun y=>by kernel_rfl
end Go.Proofs.YtogldgcllamhcaaGreat.Sx.Kx
