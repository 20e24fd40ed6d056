/-
Own laws, part 12. No condition.
-/
import Derived.Test.YtamiaelfnfnegaaGreatDoorM11
namespace Go.Proofs.YtamiaelfnfnegaaGreatDoor.Sx.Kx
open Go
noncomputable section
theorem Xd:vY tb1 76 T5=true:=by kernel_rfl
theorem Sn:vY tb1 36 (My.take 1)=true:=by kernel_rfl
theorem So:vY tb1 36 (My.drop 1)=true:=by kernel_rfl
end
end Go.Proofs.YtamiaelfnfnegaaGreatDoor.Sx.Kx
