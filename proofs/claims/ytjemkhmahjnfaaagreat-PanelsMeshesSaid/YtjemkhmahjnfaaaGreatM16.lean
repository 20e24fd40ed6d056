/-
Own laws and walks for the claim, part 16: KzV8. No condition.
-/
import Derived.Test.YtjemkhmahjnfaaaGreatM7
namespace Go.Proofs.YtjemkhmahjnfaaaGreat.Sx.Kx
open Go
set_option linter.unusedVariables false
set_option linter.unusedSimpArgs false
theorem g130:rg 6 199=true:=by kernel_rfl
theorem g131:rg 4 205=true:=by kernel_rfl
theorem g132:rg 3 209=true:=by kernel_rfl
theorem g133:rg 3 212=true:=by kernel_rfl
theorem g134:rg 3 215=true:=by kernel_rfl
theorem g135:rg 3 218=true:=by kernel_rfl
theorem g136:rg 7 221=true:=by kernel_rfl
theorem g137:rg 25 228=true:=by kernel_rfl
theorem g138:rg 5 253=true:=by kernel_rfl
theorem g139:rg 2 258=true:=by kernel_rfl
theorem g140:rg 2 260=true:=by kernel_rfl
theorem g141:rg 2 262=true:=by kernel_rfl
theorem g142:rg 2 264=true:=by kernel_rfl
end Go.Proofs.YtjemkhmahjnfaaaGreat.Sx.Kx
