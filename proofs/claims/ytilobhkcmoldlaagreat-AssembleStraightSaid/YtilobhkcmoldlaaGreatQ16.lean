/-
Own laws, part 16. No condition.
-/
import Derived.Test.YtilobhkcmoldlaaGreatQ8
namespace Go.Proofs.YtilobhkcmoldlaaGreat.Sx.Kx
open Go
noncomputable section
theorem g28:jA (scr 28)=true:=by kernel_rfl
theorem g29:jA (scr 29)=true:=by kernel_rfl
theorem g30:jA (scr 30)=true:=by kernel_rfl
theorem g31:jA (scr 31)=true:=by kernel_rfl
end
end Go.Proofs.YtilobhkcmoldlaaGreat.Sx.Kx
