/-
Own laws and walks for the claim, part 13: KzV4. No condition.
-/
import Derived.Test.YtogldgcllamhcaaGreatP8
namespace Go.Proofs.YtogldgcllamhcaaGreat.Sx.Kx
open Go
set_option linter.unusedVariables false
set_option linter.unusedSimpArgs false
theorem k29:Q 164 4:=fun y=>by kernel_rfl
theorem k30:Q 168 3:=fun y=>by kernel_rfl
theorem k31:Q 171 3:=fun y=>by kernel_rfl
theorem k32:Q 174 4:=fun y=>by kernel_rfl
theorem k33:Q 178 5:=fun y=>by kernel_rfl
theorem k34:Q 183 4:=fun y=>by kernel_rfl
theorem k35:Q 187 4:=fun y=>by kernel_rfl
theorem k36:Q 191 6:=fun y=>by kernel_rfl
end Go.Proofs.YtogldgcllamhcaaGreat.Sx.Kx
