/-
Own laws and walks for the claim, part 19: KzV11. No condition.
-/
import Derived.Test.YtjemkhmahjnfaaaGreatM7
namespace Go.Proofs.YtjemkhmahjnfaaaGreat.Sx.Kx
open Go
set_option linter.unusedVariables false
set_option linter.unusedSimpArgs false
theorem g171:rg 1 308=true:=by kernel_rfl
theorem g172:rg 1 309=true:=by kernel_rfl
theorem g173:rg 1 310=true:=by kernel_rfl
theorem g174:rg 1 311=true:=by kernel_rfl
theorem g175:rg 1 312=true:=by kernel_rfl
theorem g176:rg 1 313=true:=by kernel_rfl
theorem g177:rg 1 314=true:=by kernel_rfl
theorem g178:rg 1 315=true:=by kernel_rfl
theorem g179:rg 1 316=true:=by kernel_rfl
theorem g180:rg 1 317=true:=by kernel_rfl
theorem g181:rg 1 318=true:=by kernel_rfl
theorem g182:rg 2 319=true:=by kernel_rfl
theorem g183:rg 3 321=true:=by kernel_rfl
theorem g184:rg 3 324=true:=by kernel_rfl
theorem g185:rg 3 327=true:=by kernel_rfl
theorem g186:rg 3 330=true:=by kernel_rfl
end Go.Proofs.YtjemkhmahjnfaaaGreat.Sx.Kx
