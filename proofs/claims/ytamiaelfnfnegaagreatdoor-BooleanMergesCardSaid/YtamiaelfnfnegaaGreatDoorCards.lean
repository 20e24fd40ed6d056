/-
  DERIVED. GIVEN WITH THE SEED: THE CARDS: each row of YtamiaelfnfnegaaGreatDoorRows.lean that lists a variable, with what it lists TIED to the program's text (the seventh form; the later family's looks); each row that meets fmt, with fmt's text TOLD by the authors' own Lean function (tested against real Go, not proved from fmt's source: count such statements apart). THE CARD IS WHAT COUNTS. Prove the row's statement (the work); the ties are given (YtamiaelfnfnegaaGreatDoorTie.lean); close each card by the builder's one call (the guide's Derived/Test/ToyasCard.lean, 'card_holds'). Laid BY PROGRAM, IN A SANDBOX (cutbox-door.mjs). By AI agents, Wed Nov 11 2026. No macro, syntax, notation, axiom, sorry.
-/
import Derived.Test.YtamiaelfnfnegaaGreatDoorRows
import GoSem.ClaimSeven
namespace Go.Proofs.YtamiaelfnfnegaaGreatDoor
namespace Rows

/-- THE TIED CARD OF 'brepkernellaw33.BooleanMerges'. -/
def booleanMergesCard : Claim7 := { stood := { row := booleanMergesRow, standIns := [], harness := (true, "6939244bc6494745470e466d10f45ab5d6eb9a17bd80632707580bef89ae9599"), looks := false }, kinds := [], alts := [], laidByText := true, laidKinds := [.data, .pinned], laidTests := true, laidLooks := .later }
def BooleanMergesCardSaid : Prop := Claim7.holds Tryz.pinned (.plain (OpenSpec.ofChange booleanMergesSpec)) booleanMergesCard

/-- THE SECOND FORM's CARD OF 'brepkernellaw33.BooleanMerges'. -/
def booleanMergesUptoCard : Claim7 := { stood := { row := booleanMergesUptoRow, standIns := [], harness := (true, "6939244bc6494745470e466d10f45ab5d6eb9a17bd80632707580bef89ae9599"), looks := false }, kinds := [], alts := [], laidByText := true, laidKinds := [.data, .pinned], laidTests := true, laidLooks := .later }
def BooleanMergesUptoCardSaid : Prop := Claim7.holds Tryz.pinned (.plain (OpenSpec.upto booleanMergesSpec)) booleanMergesUptoCard
end Rows
end Go.Proofs.YtamiaelfnfnegaaGreatDoor
