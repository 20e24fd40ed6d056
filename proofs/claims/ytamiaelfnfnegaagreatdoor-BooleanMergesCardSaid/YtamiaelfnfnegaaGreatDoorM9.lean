/-
Own laws, part 9. No condition.
-/
import Derived.Test.YtamiaelfnfnegaaGreatDoorM8
namespace Go.Proofs.YtamiaelfnfnegaaGreatDoor.Sx.Kx
open Go
noncomputable section
theorem Sc:vY tb0 32 (Cl.take 1)=true:=by kernel_rfl
theorem Sd:vY tb0 32 ((Cl.drop 1).take 1)=true:=by kernel_rfl
theorem Se:vY tb0 32 (((Cl.drop 1).drop 1).take 1)=true:=by kernel_rfl
theorem Sf:vY tb0 32 ((((Cl.drop 1).drop 1).drop 1).take 1)=true:=by kernel_rfl
theorem Sg:vY tb0 32 (((((Cl.drop 1).drop 1).drop 1).drop 1).take 1)=true:=by kernel_rfl
theorem Sh:vY tb0 32 (((((Cl.drop 1).drop 1).drop 1).drop 1).drop 1)=true:=by kernel_rfl
theorem Si:vY tb0 89 (Ih.take 9)=true:=by kernel_rfl
end
end Go.Proofs.YtamiaelfnfnegaaGreatDoor.Sx.Kx
