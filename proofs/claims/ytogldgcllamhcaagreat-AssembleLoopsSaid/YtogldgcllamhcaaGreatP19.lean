/-
Own laws and walks for the claim, part 19: KzV10. No condition.
-/
import Derived.Test.YtogldgcllamhcaaGreatP8
namespace Go.Proofs.YtogldgcllamhcaaGreat.Sx.Kx
open Go
set_option linter.unusedVariables false
set_option linter.unusedSimpArgs false
theorem k75:Q 351 4:=fun y=>by kernel_rfl
theorem k76:Q 355 4:=fun y=>by kernel_rfl
theorem k77:Q 359 3:=fun y=>by kernel_rfl
theorem k78:Q 362 3:=fun y=>by kernel_rfl
theorem k79:Q 365 3:=fun y=>by kernel_rfl
theorem k80:Q 368 3:=fun y=>by kernel_rfl
theorem k81:Q 371 3:=fun y=>by kernel_rfl
end Go.Proofs.YtogldgcllamhcaaGreat.Sx.Kx
