/-
Own laws and walks for the claim, part 18: KzV10. No condition.
-/
import Derived.Test.YtjemkhmahjnfaaaGreatM7
namespace Go.Proofs.YtjemkhmahjnfaaaGreat.Sx.Kx
open Go
set_option linter.unusedVariables false
set_option linter.unusedSimpArgs false
theorem g157:rg 1 283=true:=by kernel_rfl
theorem g158:rg 1 284=true:=by kernel_rfl
theorem g159:rg 1 285=true:=by kernel_rfl
theorem g160:rg 1 286=true:=by kernel_rfl
theorem g161:rg 1 287=true:=by kernel_rfl
theorem g162:rg 3 288=true:=by kernel_rfl
theorem g163:rg 3 291=true:=by kernel_rfl
theorem g164:rg 3 294=true:=by kernel_rfl
theorem g165:rg 3 297=true:=by kernel_rfl
theorem g166:rg 3 300=true:=by kernel_rfl
theorem g167:rg 2 303=true:=by kernel_rfl
theorem g168:rg 1 305=true:=by kernel_rfl
theorem g169:rg 1 306=true:=by kernel_rfl
theorem g170:rg 1 307=true:=by kernel_rfl
end Go.Proofs.YtjemkhmahjnfaaaGreat.Sx.Kx
