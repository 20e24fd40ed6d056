/-
Own laws, part 22. No condition.
-/
import Derived.Test.YtilobhkcmoldlaaGreatQ8
namespace Go.Proofs.YtilobhkcmoldlaaGreat.Sx.Kx
open Go
noncomputable section
theorem OP:qd j6 83 ((((AX.drop 6).drop 6).drop 6).take 6)=true:=by kernel_rfl
theorem OQ:qd j6 83 (((((AX.drop 6).drop 6).drop 6).drop 6).take 6)=true:=by kernel_rfl
theorem OR:qd j6 83 (((((AX.drop 6).drop 6).drop 6).drop 6).drop 6)=true:=by kernel_rfl
theorem VS:qd j6 83 Pv=true:=by kernel_rfl
theorem VT:qd j6 83 Pw=true:=by kernel_rfl
theorem VU:qd j6 83 Px=true:=by kernel_rfl
theorem VV:qd j6 83 Py=true:=by kernel_rfl
theorem VW:qd j6 83 Pz=true:=by kernel_rfl
theorem VX:qd j6 83 PA=true:=by kernel_rfl
theorem VY:qd j6 83 PB=true:=by kernel_rfl
theorem VZ:qd j6 83 PC=true:=by kernel_rfl
theorem W0:qd j6 83 PD=true:=by kernel_rfl
theorem OS:qd j6 83 (AY.take 6)=true:=by kernel_rfl
theorem OT:qd j6 83 ((AY.drop 6).take 6)=true:=by kernel_rfl
end
end Go.Proofs.YtilobhkcmoldlaaGreat.Sx.Kx
