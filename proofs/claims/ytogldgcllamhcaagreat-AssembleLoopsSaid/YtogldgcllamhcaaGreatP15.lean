/-
Own laws and walks for the claim, part 15: KzV6. No condition.
-/
import Derived.Test.YtogldgcllamhcaaGreatP8
namespace Go.Proofs.YtogldgcllamhcaaGreat.Sx.Kx
open Go
set_option linter.unusedVariables false
set_option linter.unusedSimpArgs false
theorem k44:Q 228 3:=fun y=>by kernel_rfl
theorem k45:Q 231 3:=fun y=>by kernel_rfl
theorem k46:Q 234 3:=fun y=>by kernel_rfl
theorem k47:Q 237 3:=fun y=>by kernel_rfl
theorem k48:Q 240 4:=fun y=>by kernel_rfl
theorem k49:Q 244 4:=fun y=>by kernel_rfl
theorem k50:Q 248 4:=fun y=>by kernel_rfl
theorem k51:Q 252 5:=fun y=>by kernel_rfl
end Go.Proofs.YtogldgcllamhcaaGreat.Sx.Kx
