/-
Own laws and walks for the claim, part 17: KzV8. No condition.
-/
import Derived.Test.YtogldgcllamhcaaGreatP8
namespace Go.Proofs.YtogldgcllamhcaaGreat.Sx.Kx
open Go
set_option linter.unusedVariables false
set_option linter.unusedSimpArgs false
theorem k59:Q 289 6:=fun y=>by kernel_rfl
theorem k60:Q 295 4:=fun y=>by kernel_rfl
theorem k61:Q 299 4:=fun y=>by kernel_rfl
theorem k62:Q 303 5:=fun y=>by kernel_rfl
theorem k63:Q 308 5:=fun y=>by kernel_rfl
theorem k64:Q 313 4:=fun y=>by kernel_rfl
theorem k65:Q 317 5:=fun y=>by kernel_rfl
theorem k66:Q 322 4:=fun y=>by kernel_rfl
end Go.Proofs.YtogldgcllamhcaaGreat.Sx.Kx
