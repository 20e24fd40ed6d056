/-
Own laws and walks for the claim, part 8: KzV0. No condition.
-/
import Derived.Test.YtjemkhmahjnfaaaGreatM7
namespace Go.Proofs.YtjemkhmahjnfaaaGreat.Sx.Kx
open Go
set_option linter.unusedVariables false
set_option linter.unusedSimpArgs false
theorem g0:rg 3 0=true:=by kernel_rfl
theorem g1:rg 3 3=true:=by kernel_rfl
theorem g2:rg 3 6=true:=by kernel_rfl
theorem g3:rg 3 9=true:=by kernel_rfl
theorem g4:rg 3 12=true:=by kernel_rfl
theorem g5:rg 2 15=true:=by kernel_rfl
theorem g6:rg 1 17=true:=by kernel_rfl
theorem g7:rg 1 18=true:=by kernel_rfl
theorem g8:rg 1 19=true:=by kernel_rfl
theorem g9:rg 1 20=true:=by kernel_rfl
theorem g10:rg 1 21=true:=by kernel_rfl
theorem g11:rg 1 22=true:=by kernel_rfl
theorem g12:rg 1 23=true:=by kernel_rfl
theorem g13:rg 1 24=true:=by kernel_rfl
theorem g14:rg 1 25=true:=by kernel_rfl
theorem g15:rg 1 26=true:=by kernel_rfl
theorem g16:rg 1 27=true:=by kernel_rfl
theorem g17:rg 1 28=true:=by kernel_rfl
end Go.Proofs.YtjemkhmahjnfaaaGreat.Sx.Kx
