/-
Own laws, part 11. No condition.
-/
import Derived.Test.YtamiaelfnfnegaaGreatDoorM10
import Derived.Test.YtamiaelfnfnegaaGreatDoorM9
namespace Go.Proofs.YtamiaelfnfnegaaGreatDoor.Sx.Kx
open Go
set_option linter.unusedVariables false
set_option linter.unusedSimpArgs false
noncomputable section
def Vv(x0 x1 x2:V):DE:=⟨[.ag 3 [.gs (q9 0) 0 8 9,.gs (q9 1) 0 6 14,nS]],[(q9 0,⟨2,9,[pt x0 q0 q0,pt x0 q0 q1,pt x0 q1 q0,pt x0 q1 q1,pt x1 q0 q0,pt x1 q0 q1,pt x1 q1 q0,pt x1 q1 q1]⟩),(q9 1,⟨2,14,[fc qn q0 q0 x2 2,fc q0 q0 qn q0 3,fc q0 qn q0 q0 4,fc q0 q0 q1 q1 5,fc q0 q1 q0 q1 6,fc q1 q0 q0 x1 7]⟩),g1 2 8,g1 3 9,g1 4 10,g1 5 11,g1 6 12,g1 7 13,g4 8 0 1 3 2,g4 9 0 2 6 4,g4 10 0 4 5 1,g4 11 1 5 7 3,g4 12 2 3 7 6,g4 13 4 6 7 5],.bb true,[]⟩
def T5:List DE:=[aD 3 Vv 64,aD 3 Vv 12417]
def My:List DE:=[⟨[.gs (q9 0) 0 10 14],[(q9 0,⟨2,14,[.ag 14 [.gs (q9 1) 0 4 9,qn,q0,q0,q0,.st [102]],.ag 14 [.gs (q9 2) 0 4 9,q0,q0,qn,q0,.st [102]],.ag 14 [.gs (q9 3) 0 4 9,q0,qn,q0,q0,.st [102]],.ag 14 [.gs (q9 4) 0 4 9,q0,q0,q1,q1,.st [102]],.ag 14 [.gs (q9 5) 0 4 9,q0,q1,q0,q1,.st [102]],.ag 14 [.gs (q9 6) 0 4 9,q0,q0,qn,q0,.st [102]],.ag 14 [.gs (q9 7) 0 4 9,q0,qn,q0,q0,.st [102]],.ag 14 [.gs (q9 8) 0 4 9,q0,q0,q1,q1,.st [102]],.ag 14 [.gs (q9 9) 0 4 9,q0,q1,q0,q1,.st [102]],.ag 14 [.gs (q9 10) 0 4 9,q1,q0,q0,qi 2,.st [102]]]⟩),(q9 1,⟨2,9,[pt q0 q1 q0,pt q0 q0 q0,pt q0 q0 q1,pt q0 q1 q1]⟩),(q9 2,⟨2,9,[pt q1 q0 q0,pt q0 q0 q0,pt q0 q1 q0,pt q1 q1 q0]⟩),(q9 3,⟨2,9,[pt q1 q0 q1,pt q0 q0 q1,pt q0 q0 q0,pt q1 q0 q0]⟩),(q9 4,⟨2,9,[pt q1 q1 q1,pt q0 q1 q1,pt q0 q0 q1,pt q1 q0 q1]⟩),(q9 5,⟨2,9,[pt q1 q1 q0,pt q0 q1 q0,pt q0 q1 q1,pt q1 q1 q1]⟩),(q9 6,⟨2,9,[pt q1 q1 q0,pt (qi 2) q1 q0,pt (qi 2) q0 q0,pt q1 q0 q0]⟩),(q9 7,⟨2,9,[pt (qi 2) q0 q1,pt q1 q0 q1,pt q1 q0 q0,pt (qi 2) q0 q0]⟩),(q9 8,⟨2,9,[pt (qi 2) q1 q1,pt q1 q1 q1,pt q1 q0 q1,pt (qi 2) q0 q1]⟩),(q9 9,⟨2,9,[pt q1 q1 q1,pt (qi 2) q1 q1,pt (qi 2) q1 q0,pt q1 q1 q0]⟩),(q9 10,⟨2,9,[pt (qi 2) q1 q1,pt (qi 2) q0 q1,pt (qi 2) q0 q0,pt (qi 2) q1 q0]⟩)],.tu [.ag 3 [.sl (q9 128) 0 8 8 9,.sl (q9 129) 0 6 6 14,nS],ni 0],[(q9 128,⟨1,9,[pt q0 q0 q0,pt q0 q0 q1,pt q0 q1 q0,pt q0 q1 q1,pt (qi 2) q0 q0,pt (qi 2) q0 q1,pt (qi 2) q1 q0,pt (qi 2) q1 q1]⟩),(q9 129,⟨1,14,[.ag 14 [qn,q0,q0,q0,.sl (q9 130) 0 1 1 1,.st [102]],.ag 14 [q0,q0,qn,q0,.sl (q9 131) 0 1 1 1,.st [102]],.ag 14 [q0,qn,q0,q0,.sl (q9 132) 0 1 1 1,.st [102]],.ag 14 [q0,q0,q1,q1,.sl (q9 133) 0 1 1 1,.st [102]],.ag 14 [q0,q1,q0,q1,.sl (q9 134) 0 1 1 1,.st [102]],.ag 14 [q1,q0,q0,qi 2,.sl (q9 135) 0 1 1 1,.st [102]]]⟩),(q9 130,⟨1,1,[.gs (q9 136) 0 4 1]⟩),(q9 131,⟨1,1,[.gs (q9 137) 0 4 1]⟩),(q9 132,⟨1,1,[.gs (q9 138) 0 4 1]⟩),(q9 133,⟨1,1,[.gs (q9 139) 0 4 1]⟩),(q9 134,⟨1,1,[.gs (q9 140) 0 4 1]⟩),(q9 135,⟨1,1,[.gs (q9 141) 0 4 1]⟩),g4 136 0 1 3 2,g4 137 0 2 6 4,g4 138 0 4 5 1,g4 139 1 5 7 3,g4 140 2 3 7 6,g4 141 4 6 7 5]⟩,⟨[nS],[],.tu [.ag 3 [nS,nS,nS],ni 0],[]⟩]
def tb2:List (Nat×Pt):=(76,.memoD T5)::(36,.memoD My)::tb1
end
end Go.Proofs.YtamiaelfnfnegaaGreatDoor.Sx.Kx
