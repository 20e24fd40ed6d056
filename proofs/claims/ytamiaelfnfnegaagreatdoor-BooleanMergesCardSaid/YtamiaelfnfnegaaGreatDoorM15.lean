/-
THE STATEMENT BooleanMergesCard, with the laws it rests on. No condition.
-/
import Derived.Test.YtamiaelfnfnegaaGreatDoorM14

namespace Go.Proofs.YtamiaelfnfnegaaGreatDoor
open Go Go.Proofs
theorem booleanMerges_holds:Rows.BooleanMergesCardSaid:=Hm fun a b c l ha hb hc hl hz=>Sx.lmerges_k.sig (a,b,c,l) ⟨ha,hb,hc,hl,hz⟩ (fun _ h=>by cases h)
end Go.Proofs.YtamiaelfnfnegaaGreatDoor
