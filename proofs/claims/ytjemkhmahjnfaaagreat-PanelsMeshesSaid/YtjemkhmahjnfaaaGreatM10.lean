/-
Own laws and walks for the claim, part 10: KzV2. No condition.
-/
import Derived.Test.YtjemkhmahjnfaaaGreatM7
namespace Go.Proofs.YtjemkhmahjnfaaaGreat.Sx.Kx
open Go
set_option linter.unusedVariables false
set_option linter.unusedSimpArgs false
theorem g35:rg 1 57=true:=by kernel_rfl
theorem g36:rg 1 58=true:=by kernel_rfl
theorem g37:rg 1 59=true:=by kernel_rfl
theorem g38:rg 1 60=true:=by kernel_rfl
theorem g39:rg 1 61=true:=by kernel_rfl
theorem g40:rg 1 62=true:=by kernel_rfl
theorem g41:rg 2 63=true:=by kernel_rfl
theorem g42:rg 3 65=true:=by kernel_rfl
theorem g43:rg 3 68=true:=by kernel_rfl
theorem g44:rg 3 71=true:=by kernel_rfl
theorem g45:rg 3 74=true:=by kernel_rfl
theorem g46:rg 3 77=true:=by kernel_rfl
theorem g47:rg 1 80=true:=by kernel_rfl
theorem g48:rg 1 81=true:=by kernel_rfl
theorem g49:rg 1 82=true:=by kernel_rfl
theorem g50:rg 1 83=true:=by kernel_rfl
end Go.Proofs.YtjemkhmahjnfaaaGreat.Sx.Kx
