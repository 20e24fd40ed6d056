/-
Own laws and walks for the claim, part 13: KzV5. No condition.
-/
import Derived.Test.YtjemkhmahjnfaaaGreatM7
namespace Go.Proofs.YtjemkhmahjnfaaaGreat.Sx.Kx
open Go
set_option linter.unusedVariables false
set_option linter.unusedSimpArgs false
theorem g85:rg 3 132=true:=by kernel_rfl
theorem g86:rg 3 135=true:=by kernel_rfl
theorem g87:rg 3 138=true:=by kernel_rfl
theorem g88:rg 3 141=true:=by kernel_rfl
theorem g89:rg 1 144=true:=by kernel_rfl
theorem g90:rg 1 145=true:=by kernel_rfl
theorem g91:rg 1 146=true:=by kernel_rfl
theorem g92:rg 1 147=true:=by kernel_rfl
theorem g93:rg 1 148=true:=by kernel_rfl
theorem g94:rg 1 149=true:=by kernel_rfl
theorem g95:rg 1 150=true:=by kernel_rfl
theorem g96:rg 1 151=true:=by kernel_rfl
theorem g97:rg 1 152=true:=by kernel_rfl
theorem g98:rg 1 153=true:=by kernel_rfl
theorem g99:rg 1 154=true:=by kernel_rfl
end Go.Proofs.YtjemkhmahjnfaaaGreat.Sx.Kx
