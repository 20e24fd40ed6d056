/-
Own laws, part 24. No condition.
-/
import Derived.Test.YtilobhkcmoldlaaGreatQ8
namespace Go.Proofs.YtilobhkcmoldlaaGreat.Sx.Kx
open Go
noncomputable section
theorem YB:qd tb1 13 TY=true:=by kernel_rfl
theorem YC:qd tb1 13 TZ=true:=by kernel_rfl
theorem YD:qd tb1 13 U0=true:=by kernel_rfl
theorem YE:qd tb1 13 U1=true:=by kernel_rfl
theorem YF:qd tb1 13 U2=true:=by kernel_rfl
theorem YG:qd tb1 13 U3=true:=by kernel_rfl
theorem YH:qd tb1 13 U4=true:=by kernel_rfl
theorem YI:qd tb1 13 U5=true:=by kernel_rfl
theorem YJ:qd tb1 13 U6=true:=by kernel_rfl
theorem YK:qd tb1 13 U7=true:=by kernel_rfl
theorem W6:qd tb1 13 PK=true:=by kernel_rfl
theorem W7:qd tb1 13 PL=true:=by kernel_rfl
theorem W8:qd tb1 13 PM=true:=by kernel_rfl
theorem Ss:qd tb1 15 (Cl.take 6)=true:=by kernel_rfl
end
end Go.Proofs.YtilobhkcmoldlaaGreat.Sx.Kx
