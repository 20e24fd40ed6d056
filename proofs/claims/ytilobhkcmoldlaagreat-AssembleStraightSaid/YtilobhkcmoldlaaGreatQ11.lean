/-
Own laws, part 11. No condition.
-/
import Derived.Test.YtilobhkcmoldlaaGreatQ8
namespace Go.Proofs.YtilobhkcmoldlaaGreat.Sx.Kx
open Go
noncomputable section
theorem g8:jA (scr 8)=true:=by kernel_rfl
theorem g9:jA (scr 9)=true:=by kernel_rfl
theorem g10:jA (scr 10)=true:=by kernel_rfl
theorem g11:jA (scr 11)=true:=by kernel_rfl
end
end Go.Proofs.YtilobhkcmoldlaaGreat.Sx.Kx
