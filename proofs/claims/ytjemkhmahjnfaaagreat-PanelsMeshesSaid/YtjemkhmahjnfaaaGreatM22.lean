/-
Own laws and walks for the claim, part 22: KzV14. No condition.
-/
import Derived.Test.YtjemkhmahjnfaaaGreatM7
namespace Go.Proofs.YtjemkhmahjnfaaaGreat.Sx.Kx
open Go
set_option linter.unusedVariables false
set_option linter.unusedSimpArgs false
theorem g221:rg 1 380=true:=by kernel_rfl
theorem g222:rg 1 381=true:=by kernel_rfl
theorem g223:rg 1 382=true:=by kernel_rfl
theorem g224:rg 2 383=true:=by kernel_rfl
theorem g225:rg 3 385=true:=by kernel_rfl
theorem g226:rg 3 388=true:=by kernel_rfl
theorem g227:rg 3 391=true:=by kernel_rfl
theorem g228:rg 3 394=true:=by kernel_rfl
theorem g229:rg 3 397=true:=by kernel_rfl
theorem g230:rg 1 400=true:=by kernel_rfl
theorem g231:rg 1 401=true:=by kernel_rfl
theorem g232:rg 1 402=true:=by kernel_rfl
theorem g233:rg 1 403=true:=by kernel_rfl
theorem g234:rg 1 404=true:=by kernel_rfl
theorem g235:rg 1 405=true:=by kernel_rfl
theorem g236:rg 1 406=true:=by kernel_rfl
end Go.Proofs.YtjemkhmahjnfaaaGreat.Sx.Kx
