/-
Own laws, part 26. No condition.
-/
import Derived.Test.YtilobhkcmoldlaaGreatQ8
namespace Go.Proofs.YtilobhkcmoldlaaGreat.Sx.Kx
open Go
noncomputable section
theorem YN:qd tb2 17 Ua=true:=by kernel_rfl
theorem YO:qd tb2 17 Ub=true:=by kernel_rfl
theorem Sz:qd tb2 17 (Bu.take 1)=true:=by kernel_rfl
theorem SA:qd tb2 17 ((Bu.drop 1).take 1)=true:=by kernel_rfl
theorem SB:qd tb2 17 (((Bu.drop 1).drop 1).take 1)=true:=by kernel_rfl
theorem SC:qd tb2 17 ((((Bu.drop 1).drop 1).drop 1).take 1)=true:=by kernel_rfl
theorem SD:qd tb2 17 (((((Bu.drop 1).drop 1).drop 1).drop 1).take 1)=true:=by kernel_rfl
theorem SF:qd tb2 17 ((((((Bu.drop 1).drop 1).drop 1).drop 1).drop 1).take 1)=true:=by kernel_rfl
theorem SG:qd tb2 17 ((((((Bu.drop 1).drop 1).drop 1).drop 1).drop 1).drop 1)=true:=by kernel_rfl
end
end Go.Proofs.YtilobhkcmoldlaaGreat.Sx.Kx
