/-
Own laws, part 21. No condition.
-/
import Derived.Test.YtilobhkcmoldlaaGreatQ8
namespace Go.Proofs.YtilobhkcmoldlaaGreat.Sx.Kx
open Go
noncomputable section
theorem Yv:qd j6 83 TS=true:=by kernel_rfl
theorem Yw:qd j6 83 TT=true:=by kernel_rfl
theorem Yx:qd j6 83 TU=true:=by kernel_rfl
theorem Yy:qd j6 83 TV=true:=by kernel_rfl
theorem Yz:qd j6 83 TW=true:=by kernel_rfl
theorem YA:qd j6 83 TX=true:=by kernel_rfl
theorem VP:qd j6 83 Pr=true:=by kernel_rfl
theorem VQ:qd j6 83 Ps=true:=by kernel_rfl
theorem VR:qd j6 83 Pu=true:=by kernel_rfl
theorem OM:qd j6 83 (AX.take 6)=true:=by kernel_rfl
theorem ON:qd j6 83 ((AX.drop 6).take 6)=true:=by kernel_rfl
theorem OO:qd j6 83 (((AX.drop 6).drop 6).take 6)=true:=by kernel_rfl
end
end Go.Proofs.YtilobhkcmoldlaaGreat.Sx.Kx
