/-
Own laws, part 15. No condition.
-/
import Derived.Test.YtilobhkcmoldlaaGreatQ8
namespace Go.Proofs.YtilobhkcmoldlaaGreat.Sx.Kx
open Go
noncomputable section
theorem g24:jA (scr 24)=true:=by kernel_rfl
theorem g25:jA (scr 25)=true:=by kernel_rfl
theorem g26:jA (scr 26)=true:=by kernel_rfl
theorem g27:jA (scr 27)=true:=by kernel_rfl
end
end Go.Proofs.YtilobhkcmoldlaaGreat.Sx.Kx
