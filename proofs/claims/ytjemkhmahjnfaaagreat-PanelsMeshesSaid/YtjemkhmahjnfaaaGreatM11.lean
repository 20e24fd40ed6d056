/-
Own laws and walks for the claim, part 11: KzV3. No condition.
-/
import Derived.Test.YtjemkhmahjnfaaaGreatM7
namespace Go.Proofs.YtjemkhmahjnfaaaGreat.Sx.Kx
open Go
set_option linter.unusedVariables false
set_option linter.unusedSimpArgs false
theorem g51:rg 1 84=true:=by kernel_rfl
theorem g52:rg 1 85=true:=by kernel_rfl
theorem g53:rg 1 86=true:=by kernel_rfl
theorem g54:rg 1 87=true:=by kernel_rfl
theorem g55:rg 1 88=true:=by kernel_rfl
theorem g56:rg 1 89=true:=by kernel_rfl
theorem g57:rg 1 90=true:=by kernel_rfl
theorem g58:rg 1 91=true:=by kernel_rfl
theorem g59:rg 1 92=true:=by kernel_rfl
theorem g60:rg 1 93=true:=by kernel_rfl
theorem g61:rg 1 94=true:=by kernel_rfl
theorem g62:rg 2 95=true:=by kernel_rfl
theorem g63:rg 3 97=true:=by kernel_rfl
theorem g64:rg 3 100=true:=by kernel_rfl
theorem g65:rg 3 103=true:=by kernel_rfl
theorem g66:rg 3 106=true:=by kernel_rfl
end Go.Proofs.YtjemkhmahjnfaaaGreat.Sx.Kx
