/-
Own laws and walks for the claim, part 26: KzV18. No condition.
-/
import Derived.Test.YtjemkhmahjnfaaaGreatM7
namespace Go.Proofs.YtjemkhmahjnfaaaGreat.Sx.Kx
open Go
set_option linter.unusedVariables false
set_option linter.unusedSimpArgs false
theorem g281:rg 5 501=true:=by kernel_rfl
theorem g282:rg 5 506=true:=by kernel_rfl
theorem g283:rg 2 511=true:=by kernel_rfl
theorem g284:rg 2 513=true:=by kernel_rfl
theorem g285:rg 2 515=true:=by kernel_rfl
theorem g286:rg 2 517=true:=by kernel_rfl
theorem g287:rg 2 519=true:=by kernel_rfl
theorem g288:rg 2 521=true:=by kernel_rfl
theorem g289:rg 2 523=true:=by kernel_rfl
theorem g290:rg 2 525=true:=by kernel_rfl
theorem g291:rg 1 527=true:=by kernel_rfl
theorem g292:rg 1 528=true:=by kernel_rfl
theorem g293:rg 1 529=true:=by kernel_rfl
theorem g294:rg 1 530=true:=by kernel_rfl
end Go.Proofs.YtjemkhmahjnfaaaGreat.Sx.Kx
