/-
  No cell of these rows narrows 'for every input' (looked for: loops, veiled, ifaces, maps, wideKeys, modest, calm, conditions, laid).
  DERIVED. THE GIVEN ROWS OF THIS SEAT. 4 by the template 'for every input the law returns true; each argument reads behind the call as it read before'; 0 by the template 'total and deterministic' (their statements: YtcjgaaibflcdiaaGreatTotals.lean).
  GIVEN WITH THE SEED: the statements are not yours to turn. If you find one false, say at which input.
  Laid BY PROGRAM, IN A SANDBOX (cutbox-rows.mjs): the forced cells as the released guide's own fill.sh prints them over the translation b5e1425210a98726… (all of the seat's roots in one cut). By AI agents, Wed Nov 11 2026. No macro, syntax, notation, axiom, sorry.
-/
import Derived.Test.YtcjgaaibflcdiaaGreatChecked
import GoSem.Claim
import GoSem.ClaimJoined
import GoSem.ClaimMapViews
import Derived.JoinedTies
import Derived.KernelRfl
namespace Go.Proofs.YtcjgaaibflcdiaaGreat
/- THE CELL 'sum', in the pinned program and in every row, IS THE sha256 OF THE DUMP (.gsa) THAT YtcjgaaibflcdiaaGreatProg.lean LOADS. Nothing in Lean hashes anything: it is a label: what it is worth is what the hold of that sum in a sandbox is worth. -/
noncomputable def Tryz.pinned : Pinned := { name := "ytcjgaaibflcdiaagreat", sum := "b5e1425210a9872640e7fe8e5ac4ffeffaea4d745084846e1edf5806312dd5cb", checked := Tryz.checked }
namespace Rows
def none {H : Type} : Left H := { results := [], args := [] }

/-- 'brepkernellaw39.BlendArcs': WHATEVER THE INPUT: true; the input reads as it did. -/
def blendArcsSpec : ChangeSpec := { name := "blendArcs", fn := fun _ => fun
  | [d1, d2] => { results := [.lit (.bool true)], args := [d1, d2] }
  | _ => none }
def blendArcsRow : OpenClaim := { program := "ytcjgaaibflcdiaagreat", sum := "b5e1425210a9872640e7fe8e5ac4ffeffaea4d745084846e1edf5806312dd5cb", func := "brepkernel/brepkernellaw39.BlendArcs", spec := "blendArcs", inPlace := ["math/bits.Add64"], unfollowed := true, recurses := true, apart := false }
def BlendArcsSaid : Prop := blendArcsRow.holds Tryz.pinned (OpenSpec.ofChange blendArcsSpec)

/-- ITS FALSE NEIGHBOUR: 'it returns false'. Refute it at one input. -/
def blendArcsWrong : ChangeSpec := { name := "blendArcs", fn := fun _ => fun
  | [d1, d2] => { results := [.lit (.bool false)], args := [d1, d2] }
  | _ => none }
def BlendArcsWrongFalsely : Prop := blendArcsRow.holds Tryz.pinned (OpenSpec.ofChange blendArcsWrong)

/-- 'brepkernellaw39.BlendReaches': WHATEVER THE INPUT: true; the input reads as it did. -/
def blendReachesSpec : ChangeSpec := { name := "blendReaches", fn := fun _ => fun
  | [d1, d2] => { results := [.lit (.bool true)], args := [d1, d2] }
  | _ => none }
def blendReachesRow : OpenClaim := { program := "ytcjgaaibflcdiaagreat", sum := "b5e1425210a9872640e7fe8e5ac4ffeffaea4d745084846e1edf5806312dd5cb", func := "brepkernel/brepkernellaw39.BlendReaches", spec := "blendReaches", inPlace := ["math/bits.Add64"], unfollowed := true, recurses := true, apart := false }
def BlendReachesSaid : Prop := blendReachesRow.holds Tryz.pinned (OpenSpec.ofChange blendReachesSpec)

/-- ITS FALSE NEIGHBOUR: 'it returns false'. Refute it at one input. -/
def blendReachesWrong : ChangeSpec := { name := "blendReaches", fn := fun _ => fun
  | [d1, d2] => { results := [.lit (.bool false)], args := [d1, d2] }
  | _ => none }
def BlendReachesWrongFalsely : Prop := blendReachesRow.holds Tryz.pinned (OpenSpec.ofChange blendReachesWrong)

/-- 'brepkernellaw39.BlendRight': WHATEVER THE INPUT: true; the input reads as it did. -/
def blendRightSpec : ChangeSpec := { name := "blendRight", fn := fun _ => fun
  | [d1, d2] => { results := [.lit (.bool true)], args := [d1, d2] }
  | _ => none }
def blendRightRow : OpenClaim := { program := "ytcjgaaibflcdiaagreat", sum := "b5e1425210a9872640e7fe8e5ac4ffeffaea4d745084846e1edf5806312dd5cb", func := "brepkernel/brepkernellaw39.BlendRight", spec := "blendRight", inPlace := ["math/bits.Add64"], unfollowed := true, recurses := true, apart := false }
def BlendRightSaid : Prop := blendRightRow.holds Tryz.pinned (OpenSpec.ofChange blendRightSpec)

/-- ITS FALSE NEIGHBOUR: 'it returns false'. Refute it at one input. -/
def blendRightWrong : ChangeSpec := { name := "blendRight", fn := fun _ => fun
  | [d1, d2] => { results := [.lit (.bool false)], args := [d1, d2] }
  | _ => none }
def BlendRightWrongFalsely : Prop := blendRightRow.holds Tryz.pinned (OpenSpec.ofChange blendRightWrong)

/-- 'brepkernellaw39.BlendStrips': WHATEVER THE INPUT: true; the input reads as it did. -/
def blendStripsSpec : ChangeSpec := { name := "blendStrips", fn := fun _ => fun
  | [d1, d2, d3] => { results := [.lit (.bool true)], args := [d1, d2, d3] }
  | _ => none }
def blendStripsRow : OpenClaim := { program := "ytcjgaaibflcdiaagreat", sum := "b5e1425210a9872640e7fe8e5ac4ffeffaea4d745084846e1edf5806312dd5cb", func := "brepkernel/brepkernellaw39.BlendStrips", spec := "blendStrips", inPlace := ["math/bits.Add64"], unfollowed := true, recurses := true, apart := false }
def BlendStripsSaid : Prop := blendStripsRow.holds Tryz.pinned (OpenSpec.ofChange blendStripsSpec)

/-- ITS FALSE NEIGHBOUR: 'it returns false'. Refute it at one input. -/
def blendStripsWrong : ChangeSpec := { name := "blendStrips", fn := fun _ => fun
  | [d1, d2, d3] => { results := [.lit (.bool false)], args := [d1, d2, d3] }
  | _ => none }
def BlendStripsWrongFalsely : Prop := blendStripsRow.holds Tryz.pinned (OpenSpec.ofChange blendStripsWrong)

/- THE SECOND FORM. 'bulk': how many values and letters a reading holds, each counted each time it is reached (what is shared counts as often as it is met; a slice's spare places count too). A statement '..UptoSaid' is the law's where the arguments, and the package variables that the reading takes, are together of bulk at most 1048576: NARROWER than '..Said'. Prove '..Said' where nothing that the law and all that it calls make is longer than what came in: it says more and counts as full. Else prove '..UptoSaid'. A law counts once. -/
mutual
def uptoBulk {H : Type} : DataW H → Nat
  | .lit (.string bytes) => bytes.length + 1
  | .lit _ => 1
  | .nil => 1
  | .ptr d => uptoBulk d + 1
  | .slice elems spare => uptoBulkAll elems + uptoBulkAll spare + 1
  | .agg parts => uptoBulkAll parts + 1
  | .iface _ d => uptoBulk d + 1
  | .map entries => uptoBulkEntries entries + 1
  | .held _ => 1
def uptoBulkAll {H : Type} : List (DataW H) → Nat
  | [] => 0
  | d :: r => uptoBulk d + uptoBulkAll r
def uptoBulkEntries {H : Type} : List (Lit × DataW H) → Nat
  | [] => 0
  | x :: r => uptoBulkEntry x + uptoBulkEntries r
def uptoBulkEntry {H : Type} : Lit × DataW H → Nat
  | (.string bytes, d) => bytes.length + uptoBulk d + 1
  | (_, d) => uptoBulk d + 1
 end
def uptoSmall : (H : Type) → List (DataW H) → Bool := fun _ ds => decide (uptoBulkAll ds ≤ 1048576)
def OpenSpec.upto (s : _root_.Go.ChangeSpec) : _root_.Go.OpenSpec := { _root_.Go.OpenSpec.ofChange s with cond := some uptoSmall }

/-- 'brepkernellaw39.BlendArcs', WHERE WHAT IT READS IS OF BULK AT MOST 1048576: true; the input reads as it did. -/
def blendArcsUptoRow : OpenClaim := { program := "ytcjgaaibflcdiaagreat", sum := "b5e1425210a9872640e7fe8e5ac4ffeffaea4d745084846e1edf5806312dd5cb", func := "brepkernel/brepkernellaw39.BlendArcs", spec := "blendArcs", inPlace := ["math/bits.Add64"], unfollowed := true, recurses := true, apart := false, narrowed := true }
def BlendArcsUptoSaid : Prop := blendArcsUptoRow.holds Tryz.pinned (OpenSpec.upto blendArcsSpec)

/-- 'brepkernellaw39.BlendReaches', WHERE WHAT IT READS IS OF BULK AT MOST 1048576: true; the input reads as it did. -/
def blendReachesUptoRow : OpenClaim := { program := "ytcjgaaibflcdiaagreat", sum := "b5e1425210a9872640e7fe8e5ac4ffeffaea4d745084846e1edf5806312dd5cb", func := "brepkernel/brepkernellaw39.BlendReaches", spec := "blendReaches", inPlace := ["math/bits.Add64"], unfollowed := true, recurses := true, apart := false, narrowed := true }
def BlendReachesUptoSaid : Prop := blendReachesUptoRow.holds Tryz.pinned (OpenSpec.upto blendReachesSpec)

/-- 'brepkernellaw39.BlendRight', WHERE WHAT IT READS IS OF BULK AT MOST 1048576: true; the input reads as it did. -/
def blendRightUptoRow : OpenClaim := { program := "ytcjgaaibflcdiaagreat", sum := "b5e1425210a9872640e7fe8e5ac4ffeffaea4d745084846e1edf5806312dd5cb", func := "brepkernel/brepkernellaw39.BlendRight", spec := "blendRight", inPlace := ["math/bits.Add64"], unfollowed := true, recurses := true, apart := false, narrowed := true }
def BlendRightUptoSaid : Prop := blendRightUptoRow.holds Tryz.pinned (OpenSpec.upto blendRightSpec)

/-- 'brepkernellaw39.BlendStrips', WHERE WHAT IT READS IS OF BULK AT MOST 1048576: true; the input reads as it did. -/
def blendStripsUptoRow : OpenClaim := { program := "ytcjgaaibflcdiaagreat", sum := "b5e1425210a9872640e7fe8e5ac4ffeffaea4d745084846e1edf5806312dd5cb", func := "brepkernel/brepkernellaw39.BlendStrips", spec := "blendStrips", inPlace := ["math/bits.Add64"], unfollowed := true, recurses := true, apart := false, narrowed := true }
def BlendStripsUptoSaid : Prop := blendStripsUptoRow.holds Tryz.pinned (OpenSpec.upto blendStripsSpec)

end Rows
end Go.Proofs.YtcjgaaibflcdiaaGreat
