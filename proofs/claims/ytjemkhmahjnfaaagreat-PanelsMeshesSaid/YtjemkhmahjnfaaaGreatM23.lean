/-
Own laws and walks for the claim, part 23: KzV15. No condition.
-/
import Derived.Test.YtjemkhmahjnfaaaGreatM7
namespace Go.Proofs.YtjemkhmahjnfaaaGreat.Sx.Kx
open Go
set_option linter.unusedVariables false
set_option linter.unusedSimpArgs false
theorem g237:rg 1 407=true:=by kernel_rfl
theorem g238:rg 1 408=true:=by kernel_rfl
theorem g239:rg 1 409=true:=by kernel_rfl
theorem g240:rg 1 410=true:=by kernel_rfl
theorem g241:rg 1 411=true:=by kernel_rfl
theorem g242:rg 1 412=true:=by kernel_rfl
theorem g243:rg 1 413=true:=by kernel_rfl
theorem g244:rg 1 414=true:=by kernel_rfl
theorem g245:rg 2 415=true:=by kernel_rfl
theorem g246:rg 2 417=true:=by kernel_rfl
theorem g247:rg 2 419=true:=by kernel_rfl
theorem g248:rg 2 421=true:=by kernel_rfl
theorem g249:rg 2 423=true:=by kernel_rfl
theorem g250:rg 2 425=true:=by kernel_rfl
theorem g251:rg 2 427=true:=by kernel_rfl
theorem g252:rg 2 429=true:=by kernel_rfl
end Go.Proofs.YtjemkhmahjnfaaaGreat.Sx.Kx
