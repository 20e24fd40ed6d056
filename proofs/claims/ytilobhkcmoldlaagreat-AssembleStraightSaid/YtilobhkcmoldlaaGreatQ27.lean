/-
Own laws, part 27. No condition.
-/
import Derived.Test.YtilobhkcmoldlaaGreatQ8
namespace Go.Proofs.YtilobhkcmoldlaaGreat.Sx.Kx
open Go
noncomputable section
theorem SH:qd tb2 17 (Bv.take 1)=true:=by kernel_rfl
theorem SJ:qd tb2 17 ((Bv.drop 1).take 1)=true:=by kernel_rfl
theorem SK:qd tb2 17 (((Bv.drop 1).drop 1).take 1)=true:=by kernel_rfl
theorem SL:qd tb2 17 ((((Bv.drop 1).drop 1).drop 1).take 1)=true:=by kernel_rfl
theorem SM:qd tb2 17 (((((Bv.drop 1).drop 1).drop 1).drop 1).take 1)=true:=by kernel_rfl
theorem SN:qd tb2 17 ((((((Bv.drop 1).drop 1).drop 1).drop 1).drop 1).take 1)=true:=by kernel_rfl
theorem SO:qd tb2 17 ((((((Bv.drop 1).drop 1).drop 1).drop 1).drop 1).drop 1)=true:=by kernel_rfl
theorem YP:qd tb2 17 Uc=true:=by kernel_rfl
theorem YQ:qd tb2 17 Ud=true:=by kernel_rfl
theorem YR:qd tb2 17 Ue=true:=by kernel_rfl
theorem SP:qd tb2 17 (Bw.take 1)=true:=by kernel_rfl
end
end Go.Proofs.YtilobhkcmoldlaaGreat.Sx.Kx
