/-
Own laws, part 20. No condition.
-/
import Derived.Test.YtilobhkcmoldlaaGreatQ8
namespace Go.Proofs.YtilobhkcmoldlaaGreat.Sx.Kx
open Go
noncomputable section
theorem VH:qd j6 31 Pk=true:=by kernel_rfl
theorem Yh:qd j6 98 TE=true:=by kernel_rfl
theorem Yi:qd j6 98 TF=true:=by kernel_rfl
theorem Yj:qd j6 98 TG=true:=by kernel_rfl
theorem Yk:qd j6 98 TH=true:=by kernel_rfl
theorem Yl:qd j6 98 TI=true:=by kernel_rfl
theorem Ym:qd j6 98 TJ=true:=by kernel_rfl
theorem Yn:qd j6 98 TK=true:=by kernel_rfl
theorem Yo:qd j6 98 TL=true:=by kernel_rfl
theorem Yp:qd j6 98 TM=true:=by kernel_rfl
theorem Yq:qd j6 98 TN=true:=by kernel_rfl
theorem VI:qd j6 98 Pl=true:=by kernel_rfl
theorem VJ:qd j6 98 Pm=true:=by kernel_rfl
theorem VK:qd j6 98 Pn=true:=by kernel_rfl
theorem VM:qd j6 98 Po=true:=by kernel_rfl
theorem VN:qd j6 98 Pp=true:=by kernel_rfl
theorem VO:qd j6 98 Pq=true:=by kernel_rfl
theorem Yr:qd j6 83 TO=true:=by kernel_rfl
theorem Ys:qd j6 83 TP=true:=by kernel_rfl
theorem Yt:qd j6 83 TQ=true:=by kernel_rfl
theorem Yu:qd j6 83 TR=true:=by kernel_rfl
end
end Go.Proofs.YtilobhkcmoldlaaGreat.Sx.Kx
