/-
  No cell of these rows narrows 'for every input' (looked for: loops, veiled, ifaces, maps, wideKeys, modest, calm, conditions, laid).
  DERIVED. THE GIVEN ROWS OF THIS SEAT. 2 by the template 'for every input the law returns true; each argument reads behind the call as it read before'; 0 by the template 'total and deterministic' (their statements: YtjemkhmahjnfaaaGreatTotals.lean).
  GIVEN WITH THE SEED: the statements are not yours to turn. If you find one false, say at which input.
  Laid BY PROGRAM, IN A SANDBOX (cutbox-rows.mjs): the forced cells as the released guide's own fill.sh prints them over the translation cf4f84e4d394f3d1… (all of the seat's roots in one cut). By AI agents, Wed Nov 11 2026. No macro, syntax, notation, axiom, sorry.
-/
import Derived.Test.YtjemkhmahjnfaaaGreatChecked
import GoSem.Claim
import GoSem.ClaimJoined
import GoSem.ClaimMapViews
import Derived.JoinedTies
import Derived.KernelRfl
namespace Go.Proofs.YtjemkhmahjnfaaaGreat
/- THE CELL 'sum', in the pinned program and in every row, IS THE sha256 OF THE DUMP (.gsa) THAT YtjemkhmahjnfaaaGreatProg.lean LOADS. Nothing in Lean hashes anything: it is a label: what it is worth is what the hold of that sum in a sandbox is worth. -/
noncomputable def Tryz.pinned : Pinned := { name := "ytjemkhmahjnfaaagreat", sum := "cf4f84e4d394f3d1a559252a327e765b1d2320b49fa3710cb9f25ac492fe48ad", checked := Tryz.checked }
namespace Rows
def none {H : Type} : Left H := { results := [], args := [] }

/-- 'brepkernellaw37.PanelsMeshes': WHATEVER THE INPUT: true; the input reads as it did. -/
def panelsMeshesSpec : ChangeSpec := { name := "panelsMeshes", fn := fun _ => fun
  | [d] => { results := [.lit (.bool true)], args := [d] }
  | _ => none }
def panelsMeshesRow : OpenClaim := { program := "ytjemkhmahjnfaaagreat", sum := "cf4f84e4d394f3d1a559252a327e765b1d2320b49fa3710cb9f25ac492fe48ad", func := "brepkernel/brepkernellaw37.PanelsMeshes", spec := "panelsMeshes", inPlace := ["math/bits.Add64", "slices.overlaps[brepkernel/api.Rat]"], unfollowed := true, recurses := true, apart := false }
def PanelsMeshesSaid : Prop := panelsMeshesRow.holds Tryz.pinned (OpenSpec.ofChange panelsMeshesSpec)

/-- ITS FALSE NEIGHBOUR: 'it returns false'. Refute it at one input. -/
def panelsMeshesWrong : ChangeSpec := { name := "panelsMeshes", fn := fun _ => fun
  | [d] => { results := [.lit (.bool false)], args := [d] }
  | _ => none }
def PanelsMeshesWrongFalsely : Prop := panelsMeshesRow.holds Tryz.pinned (OpenSpec.ofChange panelsMeshesWrong)

/-- 'brepkernellaw37.PanelsClosed': WHATEVER THE INPUT: true; the input reads as it did. -/
def panelsClosedSpec : ChangeSpec := { name := "panelsClosed", fn := fun _ => fun
  | [d] => { results := [.lit (.bool true)], args := [d] }
  | _ => none }
def panelsClosedRow : OpenClaim := { program := "ytjemkhmahjnfaaagreat", sum := "cf4f84e4d394f3d1a559252a327e765b1d2320b49fa3710cb9f25ac492fe48ad", func := "brepkernel/brepkernellaw37.PanelsClosed", spec := "panelsClosed", inPlace := ["math/bits.Add64", "slices.overlaps[brepkernel/api.Rat]"], unfollowed := true, recurses := true, apart := false }
def PanelsClosedSaid : Prop := panelsClosedRow.holds Tryz.pinned (OpenSpec.ofChange panelsClosedSpec)

/-- ITS FALSE NEIGHBOUR: 'it returns false'. Refute it at one input. -/
def panelsClosedWrong : ChangeSpec := { name := "panelsClosed", fn := fun _ => fun
  | [d] => { results := [.lit (.bool false)], args := [d] }
  | _ => none }
def PanelsClosedWrongFalsely : Prop := panelsClosedRow.holds Tryz.pinned (OpenSpec.ofChange panelsClosedWrong)

/- THE SECOND FORM. 'bulk': how many values and letters a reading holds, each counted each time it is reached (what is shared counts as often as it is met; a slice's spare places count too). A statement '..UptoSaid' is the law's where the arguments, and the package variables that the reading takes, are together of bulk at most 1048576: NARROWER than '..Said'. Prove '..Said' where nothing that the law and all that it calls make is longer than what came in: it says more and counts as full. Else prove '..UptoSaid'. A law counts once. -/
mutual
def uptoBulk {H : Type} : DataW H → Nat
  | .lit (.string bytes) => bytes.length + 1
  | .lit _ => 1
  | .nil => 1
  | .ptr d => uptoBulk d + 1
  | .slice elems spare => uptoBulkAll elems + uptoBulkAll spare + 1
  | .agg parts => uptoBulkAll parts + 1
  | .iface _ d => uptoBulk d + 1
  | .map entries => uptoBulkEntries entries + 1
  | .held _ => 1
def uptoBulkAll {H : Type} : List (DataW H) → Nat
  | [] => 0
  | d :: r => uptoBulk d + uptoBulkAll r
def uptoBulkEntries {H : Type} : List (Lit × DataW H) → Nat
  | [] => 0
  | x :: r => uptoBulkEntry x + uptoBulkEntries r
def uptoBulkEntry {H : Type} : Lit × DataW H → Nat
  | (.string bytes, d) => bytes.length + uptoBulk d + 1
  | (_, d) => uptoBulk d + 1
 end
def uptoSmall : (H : Type) → List (DataW H) → Bool := fun _ ds => decide (uptoBulkAll ds ≤ 1048576)
def OpenSpec.upto (s : _root_.Go.ChangeSpec) : _root_.Go.OpenSpec := { _root_.Go.OpenSpec.ofChange s with cond := some uptoSmall }

/-- 'brepkernellaw37.PanelsMeshes', WHERE WHAT IT READS IS OF BULK AT MOST 1048576: true; the input reads as it did. -/
def panelsMeshesUptoRow : OpenClaim := { program := "ytjemkhmahjnfaaagreat", sum := "cf4f84e4d394f3d1a559252a327e765b1d2320b49fa3710cb9f25ac492fe48ad", func := "brepkernel/brepkernellaw37.PanelsMeshes", spec := "panelsMeshes", inPlace := ["math/bits.Add64", "slices.overlaps[brepkernel/api.Rat]"], unfollowed := true, recurses := true, apart := false, narrowed := true }
def PanelsMeshesUptoSaid : Prop := panelsMeshesUptoRow.holds Tryz.pinned (OpenSpec.upto panelsMeshesSpec)

/-- 'brepkernellaw37.PanelsClosed', WHERE WHAT IT READS IS OF BULK AT MOST 1048576: true; the input reads as it did. -/
def panelsClosedUptoRow : OpenClaim := { program := "ytjemkhmahjnfaaagreat", sum := "cf4f84e4d394f3d1a559252a327e765b1d2320b49fa3710cb9f25ac492fe48ad", func := "brepkernel/brepkernellaw37.PanelsClosed", spec := "panelsClosed", inPlace := ["math/bits.Add64", "slices.overlaps[brepkernel/api.Rat]"], unfollowed := true, recurses := true, apart := false, narrowed := true }
def PanelsClosedUptoSaid : Prop := panelsClosedUptoRow.holds Tryz.pinned (OpenSpec.upto panelsClosedSpec)

end Rows
end Go.Proofs.YtjemkhmahjnfaaaGreat
