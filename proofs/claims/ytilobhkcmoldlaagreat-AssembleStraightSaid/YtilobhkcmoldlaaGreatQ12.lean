/-
Own laws, part 12. No condition.
-/
import Derived.Test.YtilobhkcmoldlaaGreatQ8
namespace Go.Proofs.YtilobhkcmoldlaaGreat.Sx.Kx
open Go
noncomputable section
theorem g12:jA (scr 12)=true:=by kernel_rfl
theorem g13:jA (scr 13)=true:=by kernel_rfl
theorem g14:jA (scr 14)=true:=by kernel_rfl
theorem g15:jA (scr 15)=true:=by kernel_rfl
end
end Go.Proofs.YtilobhkcmoldlaaGreat.Sx.Kx
