/-
Own laws and walks for the claim, part 24: KzV15. No condition.
-/
import Derived.Test.YtogldgcllamhcaaGreatP8
namespace Go.Proofs.YtogldgcllamhcaaGreat.Sx.Kx
open Go
set_option linter.unusedVariables false
set_option linter.unusedSimpArgs false
theorem k112:Q 487 3:=fun y=>by kernel_rfl
theorem k113:Q 490 3:=fun y=>by kernel_rfl
theorem k114:Q 493 2:=fun y=>by kernel_rfl
theorem k115:Q 495 4:=fun y=>by kernel_rfl
theorem k116:Q 499 3:=fun y=>by kernel_rfl
theorem k117:Q 502 4:=fun y=>by kernel_rfl
theorem k118:Q 506 4:=fun y=>by kernel_rfl
theorem k119:Q 510 2:=fun y=>by kernel_rfl
end Go.Proofs.YtogldgcllamhcaaGreat.Sx.Kx
