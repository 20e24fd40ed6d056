/-
Own laws, part 28. No condition.
-/
import Derived.Test.YtilobhkcmoldlaaGreatQ8
namespace Go.Proofs.YtilobhkcmoldlaaGreat.Sx.Kx
open Go
noncomputable section
theorem SQ:qd tb2 17 ((Bw.drop 1).take 1)=true:=by kernel_rfl
theorem SS:qd tb2 17 (((Bw.drop 1).drop 1).take 1)=true:=by kernel_rfl
theorem ST:qd tb2 17 ((((Bw.drop 1).drop 1).drop 1).take 1)=true:=by kernel_rfl
theorem SU:qd tb2 17 (((((Bw.drop 1).drop 1).drop 1).drop 1).take 1)=true:=by kernel_rfl
theorem SV:qd tb2 17 ((((((Bw.drop 1).drop 1).drop 1).drop 1).drop 1).take 1)=true:=by kernel_rfl
theorem SW:qd tb2 17 ((((((Bw.drop 1).drop 1).drop 1).drop 1).drop 1).drop 1)=true:=by kernel_rfl
theorem YS:qd tb2 17 Uf=true:=by kernel_rfl
theorem YT:qd tb2 17 Ug=true:=by kernel_rfl
theorem W9:qd tb2 17 PN=true:=by kernel_rfl
theorem Wa:qd tb2 17 PO=true:=by kernel_rfl
theorem Wb:qd tb2 17 PP=true:=by kernel_rfl
theorem Wc:qd tb2 17 PQ=true:=by kernel_rfl
theorem Wd:qd tb2 17 PR=true:=by kernel_rfl
theorem We:qd tb2 17 PS=true:=by kernel_rfl
theorem OY:qd tb2 17 (Ap.take 1)=true:=by kernel_rfl
end
end Go.Proofs.YtilobhkcmoldlaaGreat.Sx.Kx
