/-
Own laws, part 10. No condition.
-/
import Derived.Test.YtamiaelfnfnegaaGreatDoorM8
namespace Go.Proofs.YtamiaelfnfnegaaGreatDoor.Sx.Kx
open Go
noncomputable section
theorem Sj:vY tb0 89 ((Ih.drop 9).take 9)=true:=by kernel_rfl
theorem Sk:vY tb0 89 ((Ih.drop 9).drop 9)=true:=by kernel_rfl
theorem Sl:vY tb0 169 (Mx.take 20)=true:=by kernel_rfl
theorem Sm:vY tb0 169 (Mx.drop 20)=true:=by kernel_rfl
theorem Xc:vY tb0 75 SZ=true:=by kernel_rfl
end
end Go.Proofs.YtamiaelfnfnegaaGreatDoor.Sx.Kx
