/-
Own laws, part 29. No condition.
-/
import Derived.Test.YtilobhkcmoldlaaGreatQ8
namespace Go.Proofs.YtilobhkcmoldlaaGreat.Sx.Kx
open Go
noncomputable section
theorem OZ:qd tb2 17 ((Ap.drop 1).take 1)=true:=by kernel_rfl
theorem P0:qd tb2 17 (((Ap.drop 1).drop 1).take 1)=true:=by kernel_rfl
theorem P1:qd tb2 17 ((((Ap.drop 1).drop 1).drop 1).take 1)=true:=by kernel_rfl
theorem P2:qd tb2 17 (((((Ap.drop 1).drop 1).drop 1).drop 1).take 1)=true:=by kernel_rfl
theorem P3:qd tb2 17 ((((((Ap.drop 1).drop 1).drop 1).drop 1).drop 1).take 1)=true:=by kernel_rfl
theorem P4:qd tb2 17 ((((((Ap.drop 1).drop 1).drop 1).drop 1).drop 1).drop 1)=true:=by kernel_rfl
end
end Go.Proofs.YtilobhkcmoldlaaGreat.Sx.Kx
