/-
Own laws and walks for the claim, part 17: KzV9. No condition.
-/
import Derived.Test.YtjemkhmahjnfaaaGreatM7
namespace Go.Proofs.YtjemkhmahjnfaaaGreat.Sx.Kx
open Go
set_option linter.unusedVariables false
set_option linter.unusedSimpArgs false
theorem g143:rg 2 266=true:=by kernel_rfl
theorem g144:rg 2 268=true:=by kernel_rfl
theorem g145:rg 2 270=true:=by kernel_rfl
theorem g146:rg 1 272=true:=by kernel_rfl
theorem g147:rg 1 273=true:=by kernel_rfl
theorem g148:rg 1 274=true:=by kernel_rfl
theorem g149:rg 1 275=true:=by kernel_rfl
theorem g150:rg 1 276=true:=by kernel_rfl
theorem g151:rg 1 277=true:=by kernel_rfl
theorem g152:rg 1 278=true:=by kernel_rfl
theorem g153:rg 1 279=true:=by kernel_rfl
theorem g154:rg 1 280=true:=by kernel_rfl
theorem g155:rg 1 281=true:=by kernel_rfl
theorem g156:rg 1 282=true:=by kernel_rfl
end Go.Proofs.YtjemkhmahjnfaaaGreat.Sx.Kx
