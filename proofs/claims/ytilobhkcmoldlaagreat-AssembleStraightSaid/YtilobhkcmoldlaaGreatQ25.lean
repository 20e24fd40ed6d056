/-
Own laws, part 25. No condition.
-/
import Derived.Test.YtilobhkcmoldlaaGreatQ8
namespace Go.Proofs.YtilobhkcmoldlaaGreat.Sx.Kx
open Go
noncomputable section
theorem St:qd tb1 15 ((Cl.drop 6).take 5)=true:=by kernel_rfl
theorem Su:qd tb1 15 (((Cl.drop 6).drop 5).take 5)=true:=by kernel_rfl
theorem Sv:qd tb1 15 ((((Cl.drop 6).drop 5).drop 5).take 5)=true:=by kernel_rfl
theorem Sw:qd tb1 15 (((((Cl.drop 6).drop 5).drop 5).drop 5).take 5)=true:=by kernel_rfl
theorem Sy:qd tb1 15 (((((Cl.drop 6).drop 5).drop 5).drop 5).drop 5)=true:=by kernel_rfl
theorem YL:qd tb1 18 U8=true:=by kernel_rfl
theorem YM:qd tb1 20 U9=true:=by kernel_rfl
end
end Go.Proofs.YtilobhkcmoldlaaGreat.Sx.Kx
