/-
Own laws, part 9. No condition.
-/
import Derived.Test.YtilobhkcmoldlaaGreatQ8
namespace Go.Proofs.YtilobhkcmoldlaaGreat.Sx.Kx
open Go
noncomputable section
theorem g0:jA (scr 0)=true:=by kernel_rfl
theorem g1:jA (scr 1)=true:=by kernel_rfl
theorem g2:jA (scr 2)=true:=by kernel_rfl
theorem g3:jA (scr 3)=true:=by kernel_rfl
end
end Go.Proofs.YtilobhkcmoldlaaGreat.Sx.Kx
