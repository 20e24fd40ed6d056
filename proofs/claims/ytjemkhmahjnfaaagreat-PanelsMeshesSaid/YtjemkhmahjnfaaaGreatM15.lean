/-
Own laws and walks for the claim, part 15: KzV7. No condition.
-/
import Derived.Test.YtjemkhmahjnfaaaGreatM7
namespace Go.Proofs.YtjemkhmahjnfaaaGreat.Sx.Kx
open Go
set_option linter.unusedVariables false
set_option linter.unusedSimpArgs false
theorem g116:rg 1 179=true:=by kernel_rfl
theorem g117:rg 1 180=true:=by kernel_rfl
theorem g118:rg 1 181=true:=by kernel_rfl
theorem g119:rg 1 182=true:=by kernel_rfl
theorem g120:rg 1 183=true:=by kernel_rfl
theorem g121:rg 1 184=true:=by kernel_rfl
theorem g122:rg 1 185=true:=by kernel_rfl
theorem g123:rg 1 186=true:=by kernel_rfl
theorem g124:rg 1 187=true:=by kernel_rfl
theorem g125:rg 1 188=true:=by kernel_rfl
theorem g126:rg 1 189=true:=by kernel_rfl
theorem g127:rg 1 190=true:=by kernel_rfl
theorem g128:rg 2 191=true:=by kernel_rfl
theorem g129:rg 6 193=true:=by kernel_rfl
end Go.Proofs.YtjemkhmahjnfaaaGreat.Sx.Kx
