/-
Own laws and walks for the claim, part 27: KzV19. No condition.
-/
import Derived.Test.YtjemkhmahjnfaaaGreatM7
namespace Go.Proofs.YtjemkhmahjnfaaaGreat.Sx.Kx
open Go
set_option linter.unusedVariables false
set_option linter.unusedSimpArgs false
theorem g295:rg 1 531=true:=by kernel_rfl
theorem g296:rg 1 532=true:=by kernel_rfl
theorem g297:rg 1 533=true:=by kernel_rfl
theorem g298:rg 1 534=true:=by kernel_rfl
theorem g299:rg 1 535=true:=by kernel_rfl
theorem g300:rg 1 536=true:=by kernel_rfl
theorem g301:rg 1 537=true:=by kernel_rfl
theorem g302:rg 1 538=true:=by kernel_rfl
theorem g303:rg 1 539=true:=by kernel_rfl
theorem g304:rg 1 540=true:=by kernel_rfl
theorem g305:rg 1 541=true:=by kernel_rfl
theorem g306:rg 1 542=true:=by kernel_rfl
theorem g307:rg 1 543=true:=by kernel_rfl
end Go.Proofs.YtjemkhmahjnfaaaGreat.Sx.Kx
