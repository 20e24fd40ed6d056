/-
Own laws, part 10. No condition.
-/
import Derived.Test.YtilobhkcmoldlaaGreatQ8
namespace Go.Proofs.YtilobhkcmoldlaaGreat.Sx.Kx
open Go
noncomputable section
theorem g4:jA (scr 4)=true:=by kernel_rfl
theorem g5:jA (scr 5)=true:=by kernel_rfl
theorem g6:jA (scr 6)=true:=by kernel_rfl
theorem g7:jA (scr 7)=true:=by kernel_rfl
end
end Go.Proofs.YtilobhkcmoldlaaGreat.Sx.Kx
