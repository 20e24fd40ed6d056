/-
Own laws and walks for the claim, part 21: KzV13. No condition.
-/
import Derived.Test.YtjemkhmahjnfaaaGreatM7
namespace Go.Proofs.YtjemkhmahjnfaaaGreat.Sx.Kx
open Go
set_option linter.unusedVariables false
set_option linter.unusedSimpArgs false
theorem g205:rg 3 356=true:=by kernel_rfl
theorem g206:rg 3 359=true:=by kernel_rfl
theorem g207:rg 3 362=true:=by kernel_rfl
theorem g208:rg 3 365=true:=by kernel_rfl
theorem g209:rg 1 368=true:=by kernel_rfl
theorem g210:rg 1 369=true:=by kernel_rfl
theorem g211:rg 1 370=true:=by kernel_rfl
theorem g212:rg 1 371=true:=by kernel_rfl
theorem g213:rg 1 372=true:=by kernel_rfl
theorem g214:rg 1 373=true:=by kernel_rfl
theorem g215:rg 1 374=true:=by kernel_rfl
theorem g216:rg 1 375=true:=by kernel_rfl
theorem g217:rg 1 376=true:=by kernel_rfl
theorem g218:rg 1 377=true:=by kernel_rfl
theorem g219:rg 1 378=true:=by kernel_rfl
theorem g220:rg 1 379=true:=by kernel_rfl
end Go.Proofs.YtjemkhmahjnfaaaGreat.Sx.Kx
