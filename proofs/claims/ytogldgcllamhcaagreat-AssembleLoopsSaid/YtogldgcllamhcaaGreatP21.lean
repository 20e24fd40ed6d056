/-
Own laws and walks for the claim, part 21: KzV12. No condition.
-/
import Derived.Test.YtogldgcllamhcaaGreatP8
namespace Go.Proofs.YtogldgcllamhcaaGreat.Sx.Kx
open Go
set_option linter.unusedVariables false
set_option linter.unusedSimpArgs false
theorem k90:Q 405 4:=fun y=>by kernel_rfl
theorem k91:Q 409 4:=fun y=>by kernel_rfl
theorem k92:Q 413 4:=fun y=>by kernel_rfl
theorem k93:Q 417 4:=fun y=>by kernel_rfl
theorem k94:Q 421 4:=fun y=>by kernel_rfl
theorem k95:Q 425 3:=fun y=>by kernel_rfl
theorem k96:Q 428 3:=fun y=>by kernel_rfl
end Go.Proofs.YtogldgcllamhcaaGreat.Sx.Kx
