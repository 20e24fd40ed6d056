/-
Own laws and walks for the claim, part 20: KzV12. No condition.
-/
import Derived.Test.YtjemkhmahjnfaaaGreatM7
namespace Go.Proofs.YtjemkhmahjnfaaaGreat.Sx.Kx
open Go
set_option linter.unusedVariables false
set_option linter.unusedSimpArgs false
theorem g187:rg 3 333=true:=by kernel_rfl
theorem g188:rg 1 336=true:=by kernel_rfl
theorem g189:rg 1 337=true:=by kernel_rfl
theorem g190:rg 1 338=true:=by kernel_rfl
theorem g191:rg 1 339=true:=by kernel_rfl
theorem g192:rg 1 340=true:=by kernel_rfl
theorem g193:rg 1 341=true:=by kernel_rfl
theorem g194:rg 1 342=true:=by kernel_rfl
theorem g195:rg 1 343=true:=by kernel_rfl
theorem g196:rg 1 344=true:=by kernel_rfl
theorem g197:rg 1 345=true:=by kernel_rfl
theorem g198:rg 1 346=true:=by kernel_rfl
theorem g199:rg 1 347=true:=by kernel_rfl
theorem g200:rg 1 348=true:=by kernel_rfl
theorem g201:rg 1 349=true:=by kernel_rfl
theorem g202:rg 1 350=true:=by kernel_rfl
theorem g203:rg 2 351=true:=by kernel_rfl
theorem g204:rg 3 353=true:=by kernel_rfl
end Go.Proofs.YtjemkhmahjnfaaaGreat.Sx.Kx
