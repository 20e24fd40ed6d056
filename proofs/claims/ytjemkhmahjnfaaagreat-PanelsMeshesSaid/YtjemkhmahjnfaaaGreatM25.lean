/-
Own laws and walks for the claim, part 25: KzV17. No condition.
-/
import Derived.Test.YtjemkhmahjnfaaaGreatM7
namespace Go.Proofs.YtjemkhmahjnfaaaGreat.Sx.Kx
open Go
set_option linter.unusedVariables false
set_option linter.unusedSimpArgs false
theorem g268:rg 1 446=true:=by kernel_rfl
theorem g269:rg 2 447=true:=by kernel_rfl
theorem g270:rg 6 449=true:=by kernel_rfl
theorem g271:rg 6 455=true:=by kernel_rfl
theorem g272:rg 4 461=true:=by kernel_rfl
theorem g273:rg 3 465=true:=by kernel_rfl
theorem g274:rg 3 468=true:=by kernel_rfl
theorem g275:rg 3 471=true:=by kernel_rfl
theorem g276:rg 3 474=true:=by kernel_rfl
theorem g277:rg 4 477=true:=by kernel_rfl
theorem g278:rg 8 481=true:=by kernel_rfl
theorem g279:rg 7 489=true:=by kernel_rfl
theorem g280:rg 5 496=true:=by kernel_rfl
end Go.Proofs.YtjemkhmahjnfaaaGreat.Sx.Kx
