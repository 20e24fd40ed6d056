/-
Own laws and walks for the claim, part 20: KzV11. No condition.
-/
import Derived.Test.YtogldgcllamhcaaGreatP8
namespace Go.Proofs.YtogldgcllamhcaaGreat.Sx.Kx
open Go
set_option linter.unusedVariables false
set_option linter.unusedSimpArgs false
theorem k82:Q 374 3:=fun y=>by kernel_rfl
theorem k83:Q 377 3:=fun y=>by kernel_rfl
theorem k84:Q 380 3:=fun y=>by kernel_rfl
theorem k85:Q 383 6:=fun y=>by kernel_rfl
theorem k86:Q 389 4:=fun y=>by kernel_rfl
theorem k87:Q 393 4:=fun y=>by kernel_rfl
theorem k88:Q 397 3:=fun y=>by kernel_rfl
theorem k89:Q 400 5:=fun y=>by kernel_rfl
end Go.Proofs.YtogldgcllamhcaaGreat.Sx.Kx
