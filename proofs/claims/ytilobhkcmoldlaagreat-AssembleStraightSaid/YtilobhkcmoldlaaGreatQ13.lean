/-
Own laws, part 13. No condition.
-/
import Derived.Test.YtilobhkcmoldlaaGreatQ8
namespace Go.Proofs.YtilobhkcmoldlaaGreat.Sx.Kx
open Go
noncomputable section
theorem g16:jA (scr 16)=true:=by kernel_rfl
theorem g17:jA (scr 17)=true:=by kernel_rfl
theorem g18:jA (scr 18)=true:=by kernel_rfl
theorem g19:jA (scr 19)=true:=by kernel_rfl
end
end Go.Proofs.YtilobhkcmoldlaaGreat.Sx.Kx
