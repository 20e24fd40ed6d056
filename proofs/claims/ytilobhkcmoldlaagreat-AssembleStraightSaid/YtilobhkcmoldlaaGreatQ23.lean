/-
Own laws, part 23. No condition.
-/
import Derived.Test.YtilobhkcmoldlaaGreatQ8
namespace Go.Proofs.YtilobhkcmoldlaaGreat.Sx.Kx
open Go
noncomputable section
theorem OU:qd j6 83 (((AY.drop 6).drop 6).take 6)=true:=by kernel_rfl
theorem OV:qd j6 83 ((((AY.drop 6).drop 6).drop 6).take 6)=true:=by kernel_rfl
theorem OW:qd j6 83 (((((AY.drop 6).drop 6).drop 6).drop 6).take 6)=true:=by kernel_rfl
theorem OX:qd j6 83 (((((AY.drop 6).drop 6).drop 6).drop 6).drop 6)=true:=by kernel_rfl
theorem W1:qd j6 83 PE=true:=by kernel_rfl
theorem W2:qd j6 83 PF=true:=by kernel_rfl
theorem W3:qd j6 83 PG=true:=by kernel_rfl
theorem W4:qd j6 83 PH=true:=by kernel_rfl
theorem W5:qd j6 83 PJ=true:=by kernel_rfl
end
end Go.Proofs.YtilobhkcmoldlaaGreat.Sx.Kx
