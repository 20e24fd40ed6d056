/-
Own laws and walks for the claim, part 16: KzV7. No condition.
-/
import Derived.Test.YtogldgcllamhcaaGreatP8
namespace Go.Proofs.YtogldgcllamhcaaGreat.Sx.Kx
open Go
set_option linter.unusedVariables false
set_option linter.unusedSimpArgs false
theorem k52:Q 257 7:=fun y=>by kernel_rfl
theorem k53:Q 264 5:=fun y=>by kernel_rfl
theorem k54:Q 269 4:=fun y=>by kernel_rfl
theorem k55:Q 273 4:=fun y=>by kernel_rfl
theorem k56:Q 277 4:=fun y=>by kernel_rfl
theorem k57:Q 281 4:=fun y=>by kernel_rfl
theorem k58:Q 285 4:=fun y=>by kernel_rfl
end Go.Proofs.YtogldgcllamhcaaGreat.Sx.Kx
