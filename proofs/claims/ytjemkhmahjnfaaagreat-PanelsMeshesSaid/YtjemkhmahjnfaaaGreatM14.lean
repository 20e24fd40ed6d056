/-
Own laws and walks for the claim, part 14: KzV6. No condition.
-/
import Derived.Test.YtjemkhmahjnfaaaGreatM7
namespace Go.Proofs.YtjemkhmahjnfaaaGreat.Sx.Kx
open Go
set_option linter.unusedVariables false
set_option linter.unusedSimpArgs false
theorem g100:rg 1 155=true:=by kernel_rfl
theorem g101:rg 1 156=true:=by kernel_rfl
theorem g102:rg 1 157=true:=by kernel_rfl
theorem g103:rg 1 158=true:=by kernel_rfl
theorem g104:rg 2 159=true:=by kernel_rfl
theorem g105:rg 2 161=true:=by kernel_rfl
theorem g106:rg 2 163=true:=by kernel_rfl
theorem g107:rg 2 165=true:=by kernel_rfl
theorem g108:rg 2 167=true:=by kernel_rfl
theorem g109:rg 2 169=true:=by kernel_rfl
theorem g110:rg 2 171=true:=by kernel_rfl
theorem g111:rg 2 173=true:=by kernel_rfl
theorem g112:rg 1 175=true:=by kernel_rfl
theorem g113:rg 1 176=true:=by kernel_rfl
theorem g114:rg 1 177=true:=by kernel_rfl
theorem g115:rg 1 178=true:=by kernel_rfl
end Go.Proofs.YtjemkhmahjnfaaaGreat.Sx.Kx
