/-
Own laws and walks for the claim, part 24: KzV16. No condition.
-/
import Derived.Test.YtjemkhmahjnfaaaGreatM7
namespace Go.Proofs.YtjemkhmahjnfaaaGreat.Sx.Kx
open Go
set_option linter.unusedVariables false
set_option linter.unusedSimpArgs false
theorem g253:rg 1 431=true:=by kernel_rfl
theorem g254:rg 1 432=true:=by kernel_rfl
theorem g255:rg 1 433=true:=by kernel_rfl
theorem g256:rg 1 434=true:=by kernel_rfl
theorem g257:rg 1 435=true:=by kernel_rfl
theorem g258:rg 1 436=true:=by kernel_rfl
theorem g259:rg 1 437=true:=by kernel_rfl
theorem g260:rg 1 438=true:=by kernel_rfl
theorem g261:rg 1 439=true:=by kernel_rfl
theorem g262:rg 1 440=true:=by kernel_rfl
theorem g263:rg 1 441=true:=by kernel_rfl
theorem g264:rg 1 442=true:=by kernel_rfl
theorem g265:rg 1 443=true:=by kernel_rfl
theorem g266:rg 1 444=true:=by kernel_rfl
theorem g267:rg 1 445=true:=by kernel_rfl
end Go.Proofs.YtjemkhmahjnfaaaGreat.Sx.Kx
