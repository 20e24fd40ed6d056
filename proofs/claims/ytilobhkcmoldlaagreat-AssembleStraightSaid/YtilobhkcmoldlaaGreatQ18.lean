/-
Own laws, part 18. No condition.
-/
import Derived.Test.YtilobhkcmoldlaaGreatQ8
namespace Go.Proofs.YtilobhkcmoldlaaGreat.Sx.Kx
open Go
noncomputable section
theorem So:qd j6 196 (Mf.take 5)=true:=by kernel_rfl
theorem Sr:qd j6 196 (Mf.drop 5)=true:=by kernel_rfl
theorem Y7:qd j6 31 Tt=true:=by kernel_rfl
theorem Y8:qd j6 31 Tu=true:=by kernel_rfl
theorem Y9:qd j6 31 Tv=true:=by kernel_rfl
theorem Ya:qd j6 31 Tw=true:=by kernel_rfl
theorem Yb:qd j6 31 Tx=true:=by kernel_rfl
theorem Yc:qd j6 31 Tz=true:=by kernel_rfl
end
end Go.Proofs.YtilobhkcmoldlaaGreat.Sx.Kx
