/-
  No cell of these rows narrows 'for every input' (looked for: loops, veiled, ifaces, maps, wideKeys, modest, calm, conditions, laid).
  DERIVED. THE GIVEN ROWS OF THIS SEAT. 6 by the template 'for every input the law returns true; each argument reads behind the call as it read before'; 0 by the template 'total and deterministic' (their statements: YtchgnllhbcadpaaGreatTotals.lean).
  GIVEN WITH THE SEED: the statements are not yours to turn. If you find one false, say at which input.
  Laid BY PROGRAM, IN A SANDBOX (cutbox-rows.mjs): the forced cells as the released guide's own fill.sh prints them over the translation e48ed74498ca74a1… (all of the seat's roots in one cut). By AI agents, Wed Nov 11 2026. No macro, syntax, notation, axiom, sorry.
-/
import Derived.Test.YtchgnllhbcadpaaGreatChecked
import GoSem.Claim
import GoSem.ClaimJoined
import GoSem.ClaimMapViews
import Derived.JoinedTies
import Derived.KernelRfl
namespace Go.Proofs.YtchgnllhbcadpaaGreat
/- THE CELL 'sum', in the pinned program and in every row, IS THE sha256 OF THE DUMP (.gsa) THAT YtchgnllhbcadpaaGreatProg.lean LOADS. Nothing in Lean hashes anything: it is a label: what it is worth is what the hold of that sum in a sandbox is worth. -/
noncomputable def Tryz.pinned : Pinned := { name := "ytchgnllhbcadpaagreat", sum := "e48ed74498ca74a1a9e9933c02c10107ed820ef3f2a5a6eaf458232fc3fdebab", checked := Tryz.checked }
namespace Rows
def none {H : Type} : Left H := { results := [], args := [] }

/-- 'brepkernellaw36.MeshCommons': WHATEVER THE INPUT: true; the input reads as it did. -/
def meshCommonsSpec : ChangeSpec := { name := "meshCommons", fn := fun _ => fun
  | [d] => { results := [.lit (.bool true)], args := [d] }
  | _ => none }
def meshCommonsRow : OpenClaim := { program := "ytchgnllhbcadpaagreat", sum := "e48ed74498ca74a1a9e9933c02c10107ed820ef3f2a5a6eaf458232fc3fdebab", func := "brepkernel/brepkernellaw36.MeshCommons", spec := "meshCommons", inPlace := ["math/bits.Add64"], unfollowed := true, recurses := true, plainKeys := false, apart := false }
def MeshCommonsSaid : Prop := meshCommonsRow.holds Tryz.pinned (OpenSpec.ofChange meshCommonsSpec)

/-- ITS FALSE NEIGHBOUR: 'it returns false'. Refute it at one input. -/
def meshCommonsWrong : ChangeSpec := { name := "meshCommons", fn := fun _ => fun
  | [d] => { results := [.lit (.bool false)], args := [d] }
  | _ => none }
def MeshCommonsWrongFalsely : Prop := meshCommonsRow.holds Tryz.pinned (OpenSpec.ofChange meshCommonsWrong)

/-- 'brepkernellaw36.MeshDistances': WHATEVER THE INPUT: true; the input reads as it did. -/
def meshDistancesSpec : ChangeSpec := { name := "meshDistances", fn := fun _ => fun
  | [d] => { results := [.lit (.bool true)], args := [d] }
  | _ => none }
def meshDistancesRow : OpenClaim := { program := "ytchgnllhbcadpaagreat", sum := "e48ed74498ca74a1a9e9933c02c10107ed820ef3f2a5a6eaf458232fc3fdebab", func := "brepkernel/brepkernellaw36.MeshDistances", spec := "meshDistances", inPlace := ["math/bits.Add64"], unfollowed := true, recurses := true, plainKeys := false, apart := false }
def MeshDistancesSaid : Prop := meshDistancesRow.holds Tryz.pinned (OpenSpec.ofChange meshDistancesSpec)

/-- ITS FALSE NEIGHBOUR: 'it returns false'. Refute it at one input. -/
def meshDistancesWrong : ChangeSpec := { name := "meshDistances", fn := fun _ => fun
  | [d] => { results := [.lit (.bool false)], args := [d] }
  | _ => none }
def MeshDistancesWrongFalsely : Prop := meshDistancesRow.holds Tryz.pinned (OpenSpec.ofChange meshDistancesWrong)

/-- 'brepkernellaw36.MeshMeets': WHATEVER THE INPUT: true; the input reads as it did. -/
def meshMeetsSpec : ChangeSpec := { name := "meshMeets", fn := fun _ => fun
  | [d] => { results := [.lit (.bool true)], args := [d] }
  | _ => none }
def meshMeetsRow : OpenClaim := { program := "ytchgnllhbcadpaagreat", sum := "e48ed74498ca74a1a9e9933c02c10107ed820ef3f2a5a6eaf458232fc3fdebab", func := "brepkernel/brepkernellaw36.MeshMeets", spec := "meshMeets", inPlace := ["math/bits.Add64"], unfollowed := true, recurses := true, plainKeys := false, apart := false }
def MeshMeetsSaid : Prop := meshMeetsRow.holds Tryz.pinned (OpenSpec.ofChange meshMeetsSpec)

/-- ITS FALSE NEIGHBOUR: 'it returns false'. Refute it at one input. -/
def meshMeetsWrong : ChangeSpec := { name := "meshMeets", fn := fun _ => fun
  | [d] => { results := [.lit (.bool false)], args := [d] }
  | _ => none }
def MeshMeetsWrongFalsely : Prop := meshMeetsRow.holds Tryz.pinned (OpenSpec.ofChange meshMeetsWrong)

/-- 'brepkernellaw32.AssembleConforms': WHATEVER THE INPUT: true; the input reads as it did. -/
def assembleConformsSpec : ChangeSpec := { name := "assembleConforms", fn := fun _ => fun
  | [d] => { results := [.lit (.bool true)], args := [d] }
  | _ => none }
def assembleConformsRow : OpenClaim := { program := "ytchgnllhbcadpaagreat", sum := "e48ed74498ca74a1a9e9933c02c10107ed820ef3f2a5a6eaf458232fc3fdebab", func := "brepkernel/brepkernellaw32.AssembleConforms", spec := "assembleConforms", inPlace := ["math/bits.Add64"], unfollowed := true, recurses := true, plainKeys := false, apart := false }
def AssembleConformsSaid : Prop := assembleConformsRow.holds Tryz.pinned (OpenSpec.ofChange assembleConformsSpec)

/-- ITS FALSE NEIGHBOUR: 'it returns false'. Refute it at one input. -/
def assembleConformsWrong : ChangeSpec := { name := "assembleConforms", fn := fun _ => fun
  | [d] => { results := [.lit (.bool false)], args := [d] }
  | _ => none }
def AssembleConformsWrongFalsely : Prop := assembleConformsRow.holds Tryz.pinned (OpenSpec.ofChange assembleConformsWrong)

/-- 'brepkernellaw32.AssembleBorders': WHATEVER THE INPUT: true; the input reads as it did. -/
def assembleBordersSpec : ChangeSpec := { name := "assembleBorders", fn := fun _ => fun
  | [d] => { results := [.lit (.bool true)], args := [d] }
  | _ => none }
def assembleBordersRow : OpenClaim := { program := "ytchgnllhbcadpaagreat", sum := "e48ed74498ca74a1a9e9933c02c10107ed820ef3f2a5a6eaf458232fc3fdebab", func := "brepkernel/brepkernellaw32.AssembleBorders", spec := "assembleBorders", inPlace := ["math/bits.Add64"], unfollowed := true, recurses := true, plainKeys := false, apart := false }
def AssembleBordersSaid : Prop := assembleBordersRow.holds Tryz.pinned (OpenSpec.ofChange assembleBordersSpec)

/-- ITS FALSE NEIGHBOUR: 'it returns false'. Refute it at one input. -/
def assembleBordersWrong : ChangeSpec := { name := "assembleBorders", fn := fun _ => fun
  | [d] => { results := [.lit (.bool false)], args := [d] }
  | _ => none }
def AssembleBordersWrongFalsely : Prop := assembleBordersRow.holds Tryz.pinned (OpenSpec.ofChange assembleBordersWrong)

/-- 'brepkernellaw32.AssembleLoops': WHATEVER THE INPUT: true; the input reads as it did. -/
def assembleLoopsSpec : ChangeSpec := { name := "assembleLoops", fn := fun _ => fun
  | [d] => { results := [.lit (.bool true)], args := [d] }
  | _ => none }
def assembleLoopsRow : OpenClaim := { program := "ytchgnllhbcadpaagreat", sum := "e48ed74498ca74a1a9e9933c02c10107ed820ef3f2a5a6eaf458232fc3fdebab", func := "brepkernel/brepkernellaw32.AssembleLoops", spec := "assembleLoops", inPlace := ["math/bits.Add64"], unfollowed := true, recurses := true, plainKeys := false, apart := false }
def AssembleLoopsSaid : Prop := assembleLoopsRow.holds Tryz.pinned (OpenSpec.ofChange assembleLoopsSpec)

/-- ITS FALSE NEIGHBOUR: 'it returns false'. Refute it at one input. -/
def assembleLoopsWrong : ChangeSpec := { name := "assembleLoops", fn := fun _ => fun
  | [d] => { results := [.lit (.bool false)], args := [d] }
  | _ => none }
def AssembleLoopsWrongFalsely : Prop := assembleLoopsRow.holds Tryz.pinned (OpenSpec.ofChange assembleLoopsWrong)

/- THE SECOND FORM. 'bulk': how many values and letters a reading holds, each counted each time it is reached (what is shared counts as often as it is met; a slice's spare places count too). A statement '..UptoSaid' is the law's where the arguments, and the package variables that the reading takes, are together of bulk at most 1048576: NARROWER than '..Said'. Prove '..Said' where nothing that the law and all that it calls make is longer than what came in: it says more and counts as full. Else prove '..UptoSaid'. A law counts once. -/
mutual
def uptoBulk {H : Type} : DataW H → Nat
  | .lit (.string bytes) => bytes.length + 1
  | .lit _ => 1
  | .nil => 1
  | .ptr d => uptoBulk d + 1
  | .slice elems spare => uptoBulkAll elems + uptoBulkAll spare + 1
  | .agg parts => uptoBulkAll parts + 1
  | .iface _ d => uptoBulk d + 1
  | .map entries => uptoBulkEntries entries + 1
  | .held _ => 1
def uptoBulkAll {H : Type} : List (DataW H) → Nat
  | [] => 0
  | d :: r => uptoBulk d + uptoBulkAll r
def uptoBulkEntries {H : Type} : List (Lit × DataW H) → Nat
  | [] => 0
  | x :: r => uptoBulkEntry x + uptoBulkEntries r
def uptoBulkEntry {H : Type} : Lit × DataW H → Nat
  | (.string bytes, d) => bytes.length + uptoBulk d + 1
  | (_, d) => uptoBulk d + 1
 end
def uptoSmall : (H : Type) → List (DataW H) → Bool := fun _ ds => decide (uptoBulkAll ds ≤ 1048576)
def OpenSpec.upto (s : _root_.Go.ChangeSpec) : _root_.Go.OpenSpec := { _root_.Go.OpenSpec.ofChange s with cond := some uptoSmall }

/-- 'brepkernellaw36.MeshCommons', WHERE WHAT IT READS IS OF BULK AT MOST 1048576: true; the input reads as it did. -/
def meshCommonsUptoRow : OpenClaim := { program := "ytchgnllhbcadpaagreat", sum := "e48ed74498ca74a1a9e9933c02c10107ed820ef3f2a5a6eaf458232fc3fdebab", func := "brepkernel/brepkernellaw36.MeshCommons", spec := "meshCommons", inPlace := ["math/bits.Add64"], unfollowed := true, recurses := true, plainKeys := false, apart := false, narrowed := true }
def MeshCommonsUptoSaid : Prop := meshCommonsUptoRow.holds Tryz.pinned (OpenSpec.upto meshCommonsSpec)

/-- 'brepkernellaw36.MeshDistances', WHERE WHAT IT READS IS OF BULK AT MOST 1048576: true; the input reads as it did. -/
def meshDistancesUptoRow : OpenClaim := { program := "ytchgnllhbcadpaagreat", sum := "e48ed74498ca74a1a9e9933c02c10107ed820ef3f2a5a6eaf458232fc3fdebab", func := "brepkernel/brepkernellaw36.MeshDistances", spec := "meshDistances", inPlace := ["math/bits.Add64"], unfollowed := true, recurses := true, plainKeys := false, apart := false, narrowed := true }
def MeshDistancesUptoSaid : Prop := meshDistancesUptoRow.holds Tryz.pinned (OpenSpec.upto meshDistancesSpec)

/-- 'brepkernellaw36.MeshMeets', WHERE WHAT IT READS IS OF BULK AT MOST 1048576: true; the input reads as it did. -/
def meshMeetsUptoRow : OpenClaim := { program := "ytchgnllhbcadpaagreat", sum := "e48ed74498ca74a1a9e9933c02c10107ed820ef3f2a5a6eaf458232fc3fdebab", func := "brepkernel/brepkernellaw36.MeshMeets", spec := "meshMeets", inPlace := ["math/bits.Add64"], unfollowed := true, recurses := true, plainKeys := false, apart := false, narrowed := true }
def MeshMeetsUptoSaid : Prop := meshMeetsUptoRow.holds Tryz.pinned (OpenSpec.upto meshMeetsSpec)

/-- 'brepkernellaw32.AssembleConforms', WHERE WHAT IT READS IS OF BULK AT MOST 1048576: true; the input reads as it did. -/
def assembleConformsUptoRow : OpenClaim := { program := "ytchgnllhbcadpaagreat", sum := "e48ed74498ca74a1a9e9933c02c10107ed820ef3f2a5a6eaf458232fc3fdebab", func := "brepkernel/brepkernellaw32.AssembleConforms", spec := "assembleConforms", inPlace := ["math/bits.Add64"], unfollowed := true, recurses := true, plainKeys := false, apart := false, narrowed := true }
def AssembleConformsUptoSaid : Prop := assembleConformsUptoRow.holds Tryz.pinned (OpenSpec.upto assembleConformsSpec)

/-- 'brepkernellaw32.AssembleBorders', WHERE WHAT IT READS IS OF BULK AT MOST 1048576: true; the input reads as it did. -/
def assembleBordersUptoRow : OpenClaim := { program := "ytchgnllhbcadpaagreat", sum := "e48ed74498ca74a1a9e9933c02c10107ed820ef3f2a5a6eaf458232fc3fdebab", func := "brepkernel/brepkernellaw32.AssembleBorders", spec := "assembleBorders", inPlace := ["math/bits.Add64"], unfollowed := true, recurses := true, plainKeys := false, apart := false, narrowed := true }
def AssembleBordersUptoSaid : Prop := assembleBordersUptoRow.holds Tryz.pinned (OpenSpec.upto assembleBordersSpec)

/-- 'brepkernellaw32.AssembleLoops', WHERE WHAT IT READS IS OF BULK AT MOST 1048576: true; the input reads as it did. -/
def assembleLoopsUptoRow : OpenClaim := { program := "ytchgnllhbcadpaagreat", sum := "e48ed74498ca74a1a9e9933c02c10107ed820ef3f2a5a6eaf458232fc3fdebab", func := "brepkernel/brepkernellaw32.AssembleLoops", spec := "assembleLoops", inPlace := ["math/bits.Add64"], unfollowed := true, recurses := true, plainKeys := false, apart := false, narrowed := true }
def AssembleLoopsUptoSaid : Prop := assembleLoopsUptoRow.holds Tryz.pinned (OpenSpec.upto assembleLoopsSpec)

end Rows
end Go.Proofs.YtchgnllhbcadpaaGreat
