/-
Own laws and walks for the claim, part 9: KzV1. No condition.
-/
import Derived.Test.YtjemkhmahjnfaaaGreatM7
namespace Go.Proofs.YtjemkhmahjnfaaaGreat.Sx.Kx
open Go
set_option linter.unusedVariables false
set_option linter.unusedSimpArgs false
theorem g18:rg 1 29=true:=by kernel_rfl
theorem g19:rg 1 30=true:=by kernel_rfl
theorem g20:rg 2 31=true:=by kernel_rfl
theorem g21:rg 3 33=true:=by kernel_rfl
theorem g22:rg 3 36=true:=by kernel_rfl
theorem g23:rg 3 39=true:=by kernel_rfl
theorem g24:rg 3 42=true:=by kernel_rfl
theorem g25:rg 3 45=true:=by kernel_rfl
theorem g26:rg 1 48=true:=by kernel_rfl
theorem g27:rg 1 49=true:=by kernel_rfl
theorem g28:rg 1 50=true:=by kernel_rfl
theorem g29:rg 1 51=true:=by kernel_rfl
theorem g30:rg 1 52=true:=by kernel_rfl
theorem g31:rg 1 53=true:=by kernel_rfl
theorem g32:rg 1 54=true:=by kernel_rfl
theorem g33:rg 1 55=true:=by kernel_rfl
theorem g34:rg 1 56=true:=by kernel_rfl
end Go.Proofs.YtjemkhmahjnfaaaGreat.Sx.Kx
