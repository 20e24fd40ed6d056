/-
Own laws and walks for the claim, part 12: KzV4. No condition.
-/
import Derived.Test.YtjemkhmahjnfaaaGreatM7
namespace Go.Proofs.YtjemkhmahjnfaaaGreat.Sx.Kx
open Go
set_option linter.unusedVariables false
set_option linter.unusedSimpArgs false
theorem g67:rg 3 109=true:=by kernel_rfl
theorem g68:rg 1 112=true:=by kernel_rfl
theorem g69:rg 1 113=true:=by kernel_rfl
theorem g70:rg 1 114=true:=by kernel_rfl
theorem g71:rg 1 115=true:=by kernel_rfl
theorem g72:rg 1 116=true:=by kernel_rfl
theorem g73:rg 1 117=true:=by kernel_rfl
theorem g74:rg 1 118=true:=by kernel_rfl
theorem g75:rg 1 119=true:=by kernel_rfl
theorem g76:rg 1 120=true:=by kernel_rfl
theorem g77:rg 1 121=true:=by kernel_rfl
theorem g78:rg 1 122=true:=by kernel_rfl
theorem g79:rg 1 123=true:=by kernel_rfl
theorem g80:rg 1 124=true:=by kernel_rfl
theorem g81:rg 1 125=true:=by kernel_rfl
theorem g82:rg 1 126=true:=by kernel_rfl
theorem g83:rg 2 127=true:=by kernel_rfl
theorem g84:rg 3 129=true:=by kernel_rfl
end Go.Proofs.YtjemkhmahjnfaaaGreat.Sx.Kx
