/-
Own laws, part 17. No condition.
-/
import Derived.Test.YtilobhkcmoldlaaGreatQ8
namespace Go.Proofs.YtilobhkcmoldlaaGreat.Sx.Kx
open Go
noncomputable section
theorem g32:jA (scr 32)=true:=by kernel_rfl
theorem g33:jA (scr 33)=true:=by kernel_rfl
theorem g34:jA (scr 34)=true:=by kernel_rfl
theorem g35:jA (scr 35)=true:=by kernel_rfl
end
end Go.Proofs.YtilobhkcmoldlaaGreat.Sx.Kx
