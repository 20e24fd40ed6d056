/-
Own laws, part 19. No condition.
-/
import Derived.Test.YtilobhkcmoldlaaGreatQ8
namespace Go.Proofs.YtilobhkcmoldlaaGreat.Sx.Kx
open Go
noncomputable section
theorem Yd:qd j6 31 TA=true:=by kernel_rfl
theorem Ye:qd j6 31 TB=true:=by kernel_rfl
theorem Yf:qd j6 31 TC=true:=by kernel_rfl
theorem Yg:qd j6 31 TD=true:=by kernel_rfl
theorem VB:qd j6 31 Pf=true:=by kernel_rfl
theorem VD:qd j6 31 Pg=true:=by kernel_rfl
theorem VE:qd j6 31 Ph=true:=by kernel_rfl
theorem VF:qd j6 31 Pi=true:=by kernel_rfl
theorem VG:qd j6 31 Pj=true:=by kernel_rfl
end
end Go.Proofs.YtilobhkcmoldlaaGreat.Sx.Kx
