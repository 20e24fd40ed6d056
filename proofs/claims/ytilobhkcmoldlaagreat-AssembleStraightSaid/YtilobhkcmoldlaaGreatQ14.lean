/-
Own laws, part 14. No condition.
-/
import Derived.Test.YtilobhkcmoldlaaGreatQ8
namespace Go.Proofs.YtilobhkcmoldlaaGreat.Sx.Kx
open Go
noncomputable section
theorem g20:jA (scr 20)=true:=by kernel_rfl
theorem g21:jA (scr 21)=true:=by kernel_rfl
theorem g22:jA (scr 22)=true:=by kernel_rfl
theorem g23:jA (scr 23)=true:=by kernel_rfl
end
end Go.Proofs.YtilobhkcmoldlaaGreat.Sx.Kx
