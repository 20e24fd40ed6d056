/-
Own laws and walks for the claim, part 7: WMf4, WTh4, WExB, WExC, WTh5, WMf9, WExD, WTh6, WMfA, WMf5, WMf6, WMf7, WMf8, WMfB. No condition.
-/
import Derived.Test.YtchgnllhbcadpaaGreatF6
namespace Go.Proofs.YtchgnllhbcadpaaGreat.Sx
open Go Go.Proofs
set_option linter.unusedVariables false
set_option linter.unusedSimpArgs false
set_option maxRecDepth 20000
set_option maxHeartbeats 4000000
abbrev Qw:FO:=⟨154,[(.pr (.sl (.pr .rat (.pr .rat .rat))) (.pr (.sl (.pr (.int .i64) (.pr (.int .i64) (.int .i64)))) (.sl (.int .i64))))],[(.p (.s 64 (.p (.n 64) (.p (.n 64) (.n 64)))) (.p (.s 64 (.p (.n 1048576) (.p (.n 1048576) (.n 1048576)))) (.s 64 (.n 1048576))))],fun z=>(fun(m:(List (Rat×Rat×Rat))×(List (Int×Int×Int))×List Int)=>[Bnd tMsh bMsh m]) z,fun k b z=> .c (.one (.mp k)),fun b z=>(fun(m:(List (Rat×Rat×Rat))×(List (Int×Int×Int))×List Int)=> .mp 1048576 (edM m)) z⟩
theorem Qx:Qw.OK Tryz.prog:=mkO hmix 36 8 Tryz.func154 rfl rfl (by decide) [] (fun _=>rfl) (fun _ _ _=>rfl) (fun _ _=>rfl) (fun _ _ _=>⟨rfl,rfl⟩) (fun(m:(List (Rat×Rat×Rat))×(List (Int×Int×Int))×List Int) k b hx hp=>⟨⟨trivial,rfl⟩,Nx (hp _ List.mem_cons_self) _ (by have:=(hp _ List.mem_cons_self:Bnd tMsh bMsh m).2.1.1;omega)⟩) (fun(m:(List (Rat×Rat×Rat))×(List (Int×Int×Int))×List Int) hx hp=>by
 have hp0:Bnd tMsh bMsh m:=hp _ (List.mem_cons_self)
 have hml:m.2.1.length≤64:=hp0.2.1.1
 refine bodyO.m (.h 1 0 (.ext (Y6 1048576)) (.loop [.s 12 (.nat .i64) (.n 1048576),.ex (mapX 8 1048576)] (fun((i,L):Nat×List ((Int×Int)×Int))=>L=edN m i∧i≤m.2.1.length) (fun((i,L):Nat×List ((Int×Int)×Int))=>m.2.1.length-i) (fun((i,L):Nat×List ((Int×Int)×Int))=> .cond (.pre 6 (.drop []) (.h 8 8 (.ext jE) (.h 8 10 (.ext (IN 1048576)) (.h 8 12 (.ext IP) (.pre 6 (.drop []) (.h 8 8 (.ext jE) (.h 8 10 (.ext (IN 1048576)) (.h 8 12 (.ext IP) (.pre 6 (.drop []) (.h 8 8 (.ext jE) (.h 8 10 (.ext (IN 1048576)) (.h 8 12 (.ext IP) (.pre 6 (.drop []) (.nil)))))))))))))) (.nil)))) (kcast (by kernel_rfl) (I (⟨rfl,Nat.zero_le _⟩:([]:List KV)=edN m 0∧0≤m.2.1.length) (fun(i:Nat)(L:List ((Int×Int)×Int))(hb1:HB [.s 12 (.nat .i64) (.n 1048576),.ex (mapX 8 1048576)] (i,L))(hI:L=edN m i∧i≤m.2.1.length)=>have hv4:=(show i≤1048576 from hb1.1);have hv5:=(show MOk 1048576 L from hb1.2);have hE:=(show MB L (3*i)from hI.1▸LV m i);have hT:=BK hp0 i;Sp (i<m.2.1.length) (fun h2=>I (?_:i<m.2.1.length) (I (?_:Int.natAbs ((m.2.1.getD i (0,(0,0))).1)≤4611686018427387904) (I (?_:Int.natAbs (((m.2.1.getD i (0,(0,0))).2).1)≤4611686018427387904) (I (?_:Int.natAbs ((m.2.1.getD i (0,(0,0))).1)≤4611686018427387904) (I (?_:Int.natAbs (((m.2.1.getD i (0,(0,0))).2).1)≤4611686018427387904) (I (?_:idxM L ((m.2.1.getD i (0,(0,0))).1,((m.2.1.getD i (0,(0,0))).2).1)≤1048576) (I (DK _ _:idxM L ((m.2.1.getD i (0,(0,0))).1,((m.2.1.getD i (0,(0,0))).2).1)<(entM L ((m.2.1.getD i (0,(0,0))).1,((m.2.1.getD i (0,(0,0))).2).1)).length) (I (?_:Int.natAbs ((getM L ((m.2.1.getD i (0,(0,0))).1,((m.2.1.getD i (0,(0,0))).2).1))+1)≤1048576) (I (rfl:mpL (entM L ((m.2.1.getD i (0,(0,0))).1,((m.2.1.getD i (0,(0,0))).2).1))=mpL (entM L ((m.2.1.getD i (0,(0,0))).1,((m.2.1.getD i (0,(0,0))).2).1))) (I (?_:Int.natAbs (((m.2.1.getD i (0,(0,0))).2).1)≤4611686018427387904) (I (?_:Int.natAbs (((m.2.1.getD i (0,(0,0))).2).2)≤4611686018427387904) (I (?_:Int.natAbs (((m.2.1.getD i (0,(0,0))).2).1)≤4611686018427387904) (I (?_:Int.natAbs (((m.2.1.getD i (0,(0,0))).2).2)≤4611686018427387904) (I (?_:idxM (setM (entM L ((m.2.1.getD i (0,(0,0))).1,((m.2.1.getD i (0,(0,0))).2).1)) (idxM L ((m.2.1.getD i (0,(0,0))).1,((m.2.1.getD i (0,(0,0))).2).1)) ((getM L ((m.2.1.getD i (0,(0,0))).1,((m.2.1.getD i (0,(0,0))).2).1))+1)) (((m.2.1.getD i (0,(0,0))).2).1,((m.2.1.getD i (0,(0,0))).2).2)≤1048576) (I (DK _ _:idxM (setM (entM L ((m.2.1.getD i (0,(0,0))).1,((m.2.1.getD i (0,(0,0))).2).1)) (idxM L ((m.2.1.getD i (0,(0,0))).1,((m.2.1.getD i (0,(0,0))).2).1)) ((getM L ((m.2.1.getD i (0,(0,0))).1,((m.2.1.getD i (0,(0,0))).2).1))+1)) (((m.2.1.getD i (0,(0,0))).2).1,((m.2.1.getD i (0,(0,0))).2).2)<(entM (setM (entM L ((m.2.1.getD i (0,(0,0))).1,((m.2.1.getD i (0,(0,0))).2).1)) (idxM L ((m.2.1.getD i (0,(0,0))).1,((m.2.1.getD i (0,(0,0))).2).1)) ((getM L ((m.2.1.getD i (0,(0,0))).1,((m.2.1.getD i (0,(0,0))).2).1))+1)) (((m.2.1.getD i (0,(0,0))).2).1,((m.2.1.getD i (0,(0,0))).2).2)).length) (I (?_:Int.natAbs ((getM (setM (entM L ((m.2.1.getD i (0,(0,0))).1,((m.2.1.getD i (0,(0,0))).2).1)) (idxM L ((m.2.1.getD i (0,(0,0))).1,((m.2.1.getD i (0,(0,0))).2).1)) ((getM L ((m.2.1.getD i (0,(0,0))).1,((m.2.1.getD i (0,(0,0))).2).1))+1)) (((m.2.1.getD i (0,(0,0))).2).1,((m.2.1.getD i (0,(0,0))).2).2))+1)≤1048576) (I (rfl:mpL (entM (setM (entM L ((m.2.1.getD i (0,(0,0))).1,((m.2.1.getD i (0,(0,0))).2).1)) (idxM L ((m.2.1.getD i (0,(0,0))).1,((m.2.1.getD i (0,(0,0))).2).1)) ((getM L ((m.2.1.getD i (0,(0,0))).1,((m.2.1.getD i (0,(0,0))).2).1))+1)) (((m.2.1.getD i (0,(0,0))).2).1,((m.2.1.getD i (0,(0,0))).2).2))=mpL (entM (setM (entM L ((m.2.1.getD i (0,(0,0))).1,((m.2.1.getD i (0,(0,0))).2).1)) (idxM L ((m.2.1.getD i (0,(0,0))).1,((m.2.1.getD i (0,(0,0))).2).1)) ((getM L ((m.2.1.getD i (0,(0,0))).1,((m.2.1.getD i (0,(0,0))).2).1))+1)) (((m.2.1.getD i (0,(0,0))).2).1,((m.2.1.getD i (0,(0,0))).2).2))) (I (?_:Int.natAbs (((m.2.1.getD i (0,(0,0))).2).2)≤4611686018427387904) (I (?_:Int.natAbs ((m.2.1.getD i (0,(0,0))).1)≤4611686018427387904) (I (?_:Int.natAbs (((m.2.1.getD i (0,(0,0))).2).2)≤4611686018427387904) (I (?_:Int.natAbs ((m.2.1.getD i (0,(0,0))).1)≤4611686018427387904) (I (?_:idxM (setM (entM (setM (entM L ((m.2.1.getD i (0,(0,0))).1,((m.2.1.getD i (0,(0,0))).2).1)) (idxM L ((m.2.1.getD i (0,(0,0))).1,((m.2.1.getD i (0,(0,0))).2).1)) ((getM L ((m.2.1.getD i (0,(0,0))).1,((m.2.1.getD i (0,(0,0))).2).1))+1)) (((m.2.1.getD i (0,(0,0))).2).1,((m.2.1.getD i (0,(0,0))).2).2)) (idxM (setM (entM L ((m.2.1.getD i (0,(0,0))).1,((m.2.1.getD i (0,(0,0))).2).1)) (idxM L ((m.2.1.getD i (0,(0,0))).1,((m.2.1.getD i (0,(0,0))).2).1)) ((getM L ((m.2.1.getD i (0,(0,0))).1,((m.2.1.getD i (0,(0,0))).2).1))+1)) (((m.2.1.getD i (0,(0,0))).2).1,((m.2.1.getD i (0,(0,0))).2).2)) ((getM (setM (entM L ((m.2.1.getD i (0,(0,0))).1,((m.2.1.getD i (0,(0,0))).2).1)) (idxM L ((m.2.1.getD i (0,(0,0))).1,((m.2.1.getD i (0,(0,0))).2).1)) ((getM L ((m.2.1.getD i (0,(0,0))).1,((m.2.1.getD i (0,(0,0))).2).1))+1)) (((m.2.1.getD i (0,(0,0))).2).1,((m.2.1.getD i (0,(0,0))).2).2))+1)) (((m.2.1.getD i (0,(0,0))).2).2,(m.2.1.getD i (0,(0,0))).1)≤1048576) (I (DK _ _:idxM (setM (entM (setM (entM L ((m.2.1.getD i (0,(0,0))).1,((m.2.1.getD i (0,(0,0))).2).1)) (idxM L ((m.2.1.getD i (0,(0,0))).1,((m.2.1.getD i (0,(0,0))).2).1)) ((getM L ((m.2.1.getD i (0,(0,0))).1,((m.2.1.getD i (0,(0,0))).2).1))+1)) (((m.2.1.getD i (0,(0,0))).2).1,((m.2.1.getD i (0,(0,0))).2).2)) (idxM (setM (entM L ((m.2.1.getD i (0,(0,0))).1,((m.2.1.getD i (0,(0,0))).2).1)) (idxM L ((m.2.1.getD i (0,(0,0))).1,((m.2.1.getD i (0,(0,0))).2).1)) ((getM L ((m.2.1.getD i (0,(0,0))).1,((m.2.1.getD i (0,(0,0))).2).1))+1)) (((m.2.1.getD i (0,(0,0))).2).1,((m.2.1.getD i (0,(0,0))).2).2)) ((getM (setM (entM L ((m.2.1.getD i (0,(0,0))).1,((m.2.1.getD i (0,(0,0))).2).1)) (idxM L ((m.2.1.getD i (0,(0,0))).1,((m.2.1.getD i (0,(0,0))).2).1)) ((getM L ((m.2.1.getD i (0,(0,0))).1,((m.2.1.getD i (0,(0,0))).2).1))+1)) (((m.2.1.getD i (0,(0,0))).2).1,((m.2.1.getD i (0,(0,0))).2).2))+1)) (((m.2.1.getD i (0,(0,0))).2).2,(m.2.1.getD i (0,(0,0))).1)<(entM (setM (entM (setM (entM L ((m.2.1.getD i (0,(0,0))).1,((m.2.1.getD i (0,(0,0))).2).1)) (idxM L ((m.2.1.getD i (0,(0,0))).1,((m.2.1.getD i (0,(0,0))).2).1)) ((getM L ((m.2.1.getD i (0,(0,0))).1,((m.2.1.getD i (0,(0,0))).2).1))+1)) (((m.2.1.getD i (0,(0,0))).2).1,((m.2.1.getD i (0,(0,0))).2).2)) (idxM (setM (entM L ((m.2.1.getD i (0,(0,0))).1,((m.2.1.getD i (0,(0,0))).2).1)) (idxM L ((m.2.1.getD i (0,(0,0))).1,((m.2.1.getD i (0,(0,0))).2).1)) ((getM L ((m.2.1.getD i (0,(0,0))).1,((m.2.1.getD i (0,(0,0))).2).1))+1)) (((m.2.1.getD i (0,(0,0))).2).1,((m.2.1.getD i (0,(0,0))).2).2)) ((getM (setM (entM L ((m.2.1.getD i (0,(0,0))).1,((m.2.1.getD i (0,(0,0))).2).1)) (idxM L ((m.2.1.getD i (0,(0,0))).1,((m.2.1.getD i (0,(0,0))).2).1)) ((getM L ((m.2.1.getD i (0,(0,0))).1,((m.2.1.getD i (0,(0,0))).2).1))+1)) (((m.2.1.getD i (0,(0,0))).2).1,((m.2.1.getD i (0,(0,0))).2).2))+1)) (((m.2.1.getD i (0,(0,0))).2).2,(m.2.1.getD i (0,(0,0))).1)).length) (I (?_:Int.natAbs ((getM (setM (entM (setM (entM L ((m.2.1.getD i (0,(0,0))).1,((m.2.1.getD i (0,(0,0))).2).1)) (idxM L ((m.2.1.getD i (0,(0,0))).1,((m.2.1.getD i (0,(0,0))).2).1)) ((getM L ((m.2.1.getD i (0,(0,0))).1,((m.2.1.getD i (0,(0,0))).2).1))+1)) (((m.2.1.getD i (0,(0,0))).2).1,((m.2.1.getD i (0,(0,0))).2).2)) (idxM (setM (entM L ((m.2.1.getD i (0,(0,0))).1,((m.2.1.getD i (0,(0,0))).2).1)) (idxM L ((m.2.1.getD i (0,(0,0))).1,((m.2.1.getD i (0,(0,0))).2).1)) ((getM L ((m.2.1.getD i (0,(0,0))).1,((m.2.1.getD i (0,(0,0))).2).1))+1)) (((m.2.1.getD i (0,(0,0))).2).1,((m.2.1.getD i (0,(0,0))).2).2)) ((getM (setM (entM L ((m.2.1.getD i (0,(0,0))).1,((m.2.1.getD i (0,(0,0))).2).1)) (idxM L ((m.2.1.getD i (0,(0,0))).1,((m.2.1.getD i (0,(0,0))).2).1)) ((getM L ((m.2.1.getD i (0,(0,0))).1,((m.2.1.getD i (0,(0,0))).2).1))+1)) (((m.2.1.getD i (0,(0,0))).2).1,((m.2.1.getD i (0,(0,0))).2).2))+1)) (((m.2.1.getD i (0,(0,0))).2).2,(m.2.1.getD i (0,(0,0))).1))+1)≤1048576) (I (rfl:mpL (entM (setM (entM (setM (entM L ((m.2.1.getD i (0,(0,0))).1,((m.2.1.getD i (0,(0,0))).2).1)) (idxM L ((m.2.1.getD i (0,(0,0))).1,((m.2.1.getD i (0,(0,0))).2).1)) ((getM L ((m.2.1.getD i (0,(0,0))).1,((m.2.1.getD i (0,(0,0))).2).1))+1)) (((m.2.1.getD i (0,(0,0))).2).1,((m.2.1.getD i (0,(0,0))).2).2)) (idxM (setM (entM L ((m.2.1.getD i (0,(0,0))).1,((m.2.1.getD i (0,(0,0))).2).1)) (idxM L ((m.2.1.getD i (0,(0,0))).1,((m.2.1.getD i (0,(0,0))).2).1)) ((getM L ((m.2.1.getD i (0,(0,0))).1,((m.2.1.getD i (0,(0,0))).2).1))+1)) (((m.2.1.getD i (0,(0,0))).2).1,((m.2.1.getD i (0,(0,0))).2).2)) ((getM (setM (entM L ((m.2.1.getD i (0,(0,0))).1,((m.2.1.getD i (0,(0,0))).2).1)) (idxM L ((m.2.1.getD i (0,(0,0))).1,((m.2.1.getD i (0,(0,0))).2).1)) ((getM L ((m.2.1.getD i (0,(0,0))).1,((m.2.1.getD i (0,(0,0))).2).1))+1)) (((m.2.1.getD i (0,(0,0))).2).1,((m.2.1.getD i (0,(0,0))).2).2))+1)) (((m.2.1.getD i (0,(0,0))).2).2,(m.2.1.getD i (0,(0,0))).1))=mpL (entM (setM (entM (setM (entM L ((m.2.1.getD i (0,(0,0))).1,((m.2.1.getD i (0,(0,0))).2).1)) (idxM L ((m.2.1.getD i (0,(0,0))).1,((m.2.1.getD i (0,(0,0))).2).1)) ((getM L ((m.2.1.getD i (0,(0,0))).1,((m.2.1.getD i (0,(0,0))).2).1))+1)) (((m.2.1.getD i (0,(0,0))).2).1,((m.2.1.getD i (0,(0,0))).2).2)) (idxM (setM (entM L ((m.2.1.getD i (0,(0,0))).1,((m.2.1.getD i (0,(0,0))).2).1)) (idxM L ((m.2.1.getD i (0,(0,0))).1,((m.2.1.getD i (0,(0,0))).2).1)) ((getM L ((m.2.1.getD i (0,(0,0))).1,((m.2.1.getD i (0,(0,0))).2).1))+1)) (((m.2.1.getD i (0,(0,0))).2).1,((m.2.1.getD i (0,(0,0))).2).2)) ((getM (setM (entM L ((m.2.1.getD i (0,(0,0))).1,((m.2.1.getD i (0,(0,0))).2).1)) (idxM L ((m.2.1.getD i (0,(0,0))).1,((m.2.1.getD i (0,(0,0))).2).1)) ((getM L ((m.2.1.getD i (0,(0,0))).1,((m.2.1.getD i (0,(0,0))).2).1))+1)) (((m.2.1.getD i (0,(0,0))).2).1,((m.2.1.getD i (0,(0,0))).2).2))+1)) (((m.2.1.getD i (0,(0,0))).2).2,(m.2.1.getD i (0,(0,0))).1))) (I (show(i+1)≤1048576 by omega:Bnd (.nat .i64) (.n 1048576) (i+1)) (And.intro (⟨by rw[hI.1];rfl,by omega⟩:setM (entM (setM (entM (setM (entM L ((m.2.1.getD i (0,(0,0))).1,((m.2.1.getD i (0,(0,0))).2).1)) (idxM L ((m.2.1.getD i (0,(0,0))).1,((m.2.1.getD i (0,(0,0))).2).1)) ((getM L ((m.2.1.getD i (0,(0,0))).1,((m.2.1.getD i (0,(0,0))).2).1))+1)) (((m.2.1.getD i (0,(0,0))).2).1,((m.2.1.getD i (0,(0,0))).2).2)) (idxM (setM (entM L ((m.2.1.getD i (0,(0,0))).1,((m.2.1.getD i (0,(0,0))).2).1)) (idxM L ((m.2.1.getD i (0,(0,0))).1,((m.2.1.getD i (0,(0,0))).2).1)) ((getM L ((m.2.1.getD i (0,(0,0))).1,((m.2.1.getD i (0,(0,0))).2).1))+1)) (((m.2.1.getD i (0,(0,0))).2).1,((m.2.1.getD i (0,(0,0))).2).2)) ((getM (setM (entM L ((m.2.1.getD i (0,(0,0))).1,((m.2.1.getD i (0,(0,0))).2).1)) (idxM L ((m.2.1.getD i (0,(0,0))).1,((m.2.1.getD i (0,(0,0))).2).1)) ((getM L ((m.2.1.getD i (0,(0,0))).1,((m.2.1.getD i (0,(0,0))).2).1))+1)) (((m.2.1.getD i (0,(0,0))).2).1,((m.2.1.getD i (0,(0,0))).2).2))+1)) (((m.2.1.getD i (0,(0,0))).2).2,(m.2.1.getD i (0,(0,0))).1)) (idxM (setM (entM (setM (entM L ((m.2.1.getD i (0,(0,0))).1,((m.2.1.getD i (0,(0,0))).2).1)) (idxM L ((m.2.1.getD i (0,(0,0))).1,((m.2.1.getD i (0,(0,0))).2).1)) ((getM L ((m.2.1.getD i (0,(0,0))).1,((m.2.1.getD i (0,(0,0))).2).1))+1)) (((m.2.1.getD i (0,(0,0))).2).1,((m.2.1.getD i (0,(0,0))).2).2)) (idxM (setM (entM L ((m.2.1.getD i (0,(0,0))).1,((m.2.1.getD i (0,(0,0))).2).1)) (idxM L ((m.2.1.getD i (0,(0,0))).1,((m.2.1.getD i (0,(0,0))).2).1)) ((getM L ((m.2.1.getD i (0,(0,0))).1,((m.2.1.getD i (0,(0,0))).2).1))+1)) (((m.2.1.getD i (0,(0,0))).2).1,((m.2.1.getD i (0,(0,0))).2).2)) ((getM (setM (entM L ((m.2.1.getD i (0,(0,0))).1,((m.2.1.getD i (0,(0,0))).2).1)) (idxM L ((m.2.1.getD i (0,(0,0))).1,((m.2.1.getD i (0,(0,0))).2).1)) ((getM L ((m.2.1.getD i (0,(0,0))).1,((m.2.1.getD i (0,(0,0))).2).1))+1)) (((m.2.1.getD i (0,(0,0))).2).1,((m.2.1.getD i (0,(0,0))).2).2))+1)) (((m.2.1.getD i (0,(0,0))).2).2,(m.2.1.getD i (0,(0,0))).1)) ((getM (setM (entM (setM (entM L ((m.2.1.getD i (0,(0,0))).1,((m.2.1.getD i (0,(0,0))).2).1)) (idxM L ((m.2.1.getD i (0,(0,0))).1,((m.2.1.getD i (0,(0,0))).2).1)) ((getM L ((m.2.1.getD i (0,(0,0))).1,((m.2.1.getD i (0,(0,0))).2).1))+1)) (((m.2.1.getD i (0,(0,0))).2).1,((m.2.1.getD i (0,(0,0))).2).2)) (idxM (setM (entM L ((m.2.1.getD i (0,(0,0))).1,((m.2.1.getD i (0,(0,0))).2).1)) (idxM L ((m.2.1.getD i (0,(0,0))).1,((m.2.1.getD i (0,(0,0))).2).1)) ((getM L ((m.2.1.getD i (0,(0,0))).1,((m.2.1.getD i (0,(0,0))).2).1))+1)) (((m.2.1.getD i (0,(0,0))).2).1,((m.2.1.getD i (0,(0,0))).2).2)) ((getM (setM (entM L ((m.2.1.getD i (0,(0,0))).1,((m.2.1.getD i (0,(0,0))).2).1)) (idxM L ((m.2.1.getD i (0,(0,0))).1,((m.2.1.getD i (0,(0,0))).2).1)) ((getM L ((m.2.1.getD i (0,(0,0))).1,((m.2.1.getD i (0,(0,0))).2).1))+1)) (((m.2.1.getD i (0,(0,0))).2).1,((m.2.1.getD i (0,(0,0))).2).2))+1)) (((m.2.1.getD i (0,(0,0))).2).2,(m.2.1.getD i (0,(0,0))).1))+1)=edN m (i+1)∧(i+1)≤m.2.1.length) (?_:m.2.1.length-(i+1)<m.2.1.length-i)))))))))))))))))))))))))))) (fun h3=>And.intro (by rw[hI.1,show i=m.2.1.length by omega]:L=edM m) (rfl:8=8)))))<;>first|omega|(first|exact hE.idx (by omega)|exact(hE.inc _).idx (by omega)|exact((hE.inc _).inc _).idx (by omega))|(first|exact hE.get (by omega)|exact(hE.inc _).get (by omega)|exact((hE.inc _).inc _).get (by omega)))
abbrev Qv:CtrO Tryz.prog:=FO.c Qx
abbrev Qo:FI:=⟨87,[(.pr (.sl (.pr .rat (.pr .rat .rat))) (.pr (.sl (.pr (.int .i64) (.pr (.int .i64) (.int .i64)))) (.sl (.int .i64))))],[(.p (.s 64 (.p (.n 64) (.p (.n 64) (.n 64)))) (.p (.s 64 (.p (.n 1048576) (.p (.n 1048576) (.n 1048576)))) (.s 64 (.n 1048576))))],fun z=>(fun(m:(List (Rat×Rat×Rat))×(List (Int×Int×Int))×List Int)=>[Bnd tMsh bMsh m]) z,fun b z=>(fun(m:(List (Rat×Rat×Rat))×(List (Int×Int×Int))×List Int)=> .c (.one (.dt (.sl tDg) (.s 192 bDg) (mkP m)))) z⟩
theorem Qp:Qo.OK Tryz.prog:=mkF hmix 113 Tryz.func87 rfl rfl (by decide) [(67,.c Gr),(89,.c J5),(152,.c QG),(153,.c QD),(154,.o Qv)] (fun(m:(List (Rat×Rat×Rat))×(List (Int×Int×Int))×List Int) b hx hp=>qa (Gx (hp _ List.mem_cons_self)) rfl) (fun(m:(List (Rat×Rat×Rat))×(List (Int×Int×Int))×List Int) hx hp=>by
 have hp0:Bnd tMsh bMsh m:=hp _ (List.mem_cons_self)
 have hml:m.2.1.length≤64:=hp0.2.1.1
 refine⟨.cond (.h 2 1 (.mk (.im (.pr (.int .i64) (.pr (.int .i64) (.pr (.int .i64) (.pr (.int .i64) (.int .i64))))) (.p (.n 64) (.p (.n 1) (.p (.n 1048576) (.p (.n 1) (.n 1048576))))))) (.nil)) (.cond (.h 2 1 (.mk (.im (.pr (.int .i64) (.pr (.int .i64) (.pr (.int .i64) (.pr (.int .i64) (.int .i64))))) (.p (.n 64) (.p (.n 1) (.p (.n 1048576) (.p (.n 1) (.n 1048576))))))) (.nil)) (.loop [.s 32 (.nat .i64) (.n 1048576),.g 3 90001 (.pr (.int .i64) (.pr (.int .i64) (.pr (.int .i64) (.pr (.int .i64) (.int .i64))))) (.p (.n 64) (.p (.n 1) (.p (.n 1048576) (.p (.n 1) (.n 1048576))))) 192] (fun((i,l):Nat×List (Int×Int×Int×Int×Int))=>l=badN m i∧i≤m.2.1.length) (fun((i,l):Nat×List (Int×Int×Int×Int×Int))=>m.2.1.length-i) (fun((i,l):Nat×List (Int×Int×Int×Int×Int))=> .cond (.cond (.h 8 3 (.mk (.im (.pr (.int .i64) (.pr (.int .i64) (.pr (.int .i64) (.pr (.int .i64) (.int .i64))))) (.p (.n 64) (.p (.n 1) (.p (.n 1048576) (.p (.n 1) (.n 1048576))))))) (.nil)) (.nil)) (.cond (.pre 999999 (.frz 90001 true [2]) (.nil)) (.loop [.s 54 (.nat .i64) (.n 1048576),.g 3 90002 (.pr (.int .i64) (.pr (.int .i64) (.pr (.int .i64) (.pr (.int .i64) (.int .i64))))) (.p (.n 64) (.p (.n 1) (.p (.n 1048576) (.p (.n 1) (.n 1048576))))) 192] (fun((j,k):Nat×List (Int×Int×Int×Int×Int))=>k=thnN m j∧j≤m.2.1.length) (fun((j,k):Nat×List (Int×Int×Int×Int×Int))=>m.2.1.length-j) (fun((j,k):Nat×List (Int×Int×Int×Int×Int))=> .cond (.cond (.h 16 3 (.mk (.im (.pr (.int .i64) (.pr (.int .i64) (.pr (.int .i64) (.pr (.int .i64) (.int .i64))))) (.p (.n 64) (.p (.n 1) (.p (.n 1048576) (.p (.n 1) (.n 1048576))))))) (.nil)) (.nil)) (.cond (.pre 999999 (.frz 90002 true [2]) (.nil)) (.loop [.s 78 (.nat .i64) (.n 1048576),.g 3 90003 (.pr (.int .i64) (.pr (.int .i64) (.pr (.int .i64) (.pr (.int .i64) (.int .i64))))) (.p (.n 64) (.p (.n 1) (.p (.n 1048576) (.p (.n 1) (.n 1048576))))) 192] (fun((q,o):Nat×List (Int×Int×Int×Int×Int))=>o=opnN (cP m) m q∧q≤m.2.1.length) (fun((q,o):Nat×List (Int×Int×Int×Int×Int))=>m.2.1.length-q) (fun((q,o):Nat×List (Int×Int×Int×Int×Int))=> .cond (.h 28 4 (.ext jE) (.h 28 9 (.ext jE) (.cond (.h 29 4 (.mk (.im (.pr (.int .i64) (.pr (.int .i64) (.pr (.int .i64) (.pr (.int .i64) (.int .i64))))) (.p (.n 64) (.p (.n 1) (.p (.n 1048576) (.p (.n 1) (.n 1048576))))))) (.h 28 4 (.ext jE) (.h 28 9 (.ext jE) (.cond (.h 29 4 (.mk (.im (.pr (.int .i64) (.pr (.int .i64) (.pr (.int .i64) (.pr (.int .i64) (.int .i64))))) (.p (.n 64) (.p (.n 1) (.p (.n 1048576) (.p (.n 1) (.n 1048576))))))) (.h 29 5 (.to (.gro (.pr (.int .i64) (.pr (.int .i64) (.pr (.int .i64) (.pr (.int .i64) (.int .i64))))) (.p (.n 64) (.p (.n 1) (.p (.n 1048576) (.p (.n 1) (.n 1048576)))))) 90010) (.h 28 4 (.ext jE) (.h 28 9 (.ext jE) (.cond (.h 29 4 (.mk (.im (.pr (.int .i64) (.pr (.int .i64) (.pr (.int .i64) (.pr (.int .i64) (.int .i64))))) (.p (.n 64) (.p (.n 1) (.p (.n 1048576) (.p (.n 1) (.n 1048576))))))) (.nil)) (.nil)))))) (.h 28 4 (.ext jE) (.h 28 9 (.ext jE) (.cond (.h 29 4 (.mk (.im (.pr (.int .i64) (.pr (.int .i64) (.pr (.int .i64) (.pr (.int .i64) (.int .i64))))) (.p (.n 64) (.p (.n 1) (.p (.n 1048576) (.p (.n 1) (.n 1048576))))))) (.h 29 5 (.to (.gro (.pr (.int .i64) (.pr (.int .i64) (.pr (.int .i64) (.pr (.int .i64) (.int .i64))))) (.p (.n 64) (.p (.n 1) (.p (.n 1048576) (.p (.n 1) (.n 1048576)))))) 90010) (.nil))) (.nil)))))))) (.h 28 4 (.ext jE) (.h 28 9 (.ext jE) (.cond (.h 29 4 (.mk (.im (.pr (.int .i64) (.pr (.int .i64) (.pr (.int .i64) (.pr (.int .i64) (.int .i64))))) (.p (.n 64) (.p (.n 1) (.p (.n 1048576) (.p (.n 1) (.n 1048576))))))) (.h 28 4 (.ext jE) (.h 28 9 (.ext jE) (.cond (.h 29 4 (.mk (.im (.pr (.int .i64) (.pr (.int .i64) (.pr (.int .i64) (.pr (.int .i64) (.int .i64))))) (.p (.n 64) (.p (.n 1) (.p (.n 1048576) (.p (.n 1) (.n 1048576))))))) (.h 29 5 (.to (.gro (.pr (.int .i64) (.pr (.int .i64) (.pr (.int .i64) (.pr (.int .i64) (.int .i64))))) (.p (.n 64) (.p (.n 1) (.p (.n 1048576) (.p (.n 1) (.n 1048576)))))) 90010) (.nil))) (.nil))))) (.h 28 4 (.ext jE) (.h 28 9 (.ext jE) (.cond (.h 29 4 (.mk (.im (.pr (.int .i64) (.pr (.int .i64) (.pr (.int .i64) (.pr (.int .i64) (.int .i64))))) (.p (.n 64) (.p (.n 1) (.p (.n 1048576) (.p (.n 1) (.n 1048576))))))) (.nil)) (.nil)))))))))) (.pre 999999 (.frz 90003 true [2]) (.nil))))))))))),kcast (by kernel_rfl) (Sp (4096<m.2.1.length) (fun h1=>I (?_:Int.natAbs 2≤64) (I (?_:Int.natAbs (-1)≤1048576) (I (?_:Int.natAbs (-1)≤1048576) ((HW (.inl h1):[(2,-1,(-1),-1,(-1))]=mkP m))))) (fun h2=>Sp (m.2.2.length≠m.2.1.length) (fun h3=>I (?_:Int.natAbs 2≤64) (I (?_:Int.natAbs (-1)≤1048576) (I (?_:Int.natAbs (-1)≤1048576) ((HW (.inr h3):[(2,-1,(-1),-1,(-1))]=mkP m))))) (fun h4=>I (rfl:0=([]:List (Int×Int×Int×Int×Int)).length) (I (⟨rfl,Nat.zero_le _⟩:([]:List (Int×Int×Int×Int×Int))=badN m 0∧0≤m.2.1.length) (fun(i:Nat)(l:List (Int×Int×Int×Int×Int))(hb5:HB [.s 32 (.nat .i64) (.n 1048576),.g 3 90001 (.pr (.int .i64) (.pr (.int .i64) (.pr (.int .i64) (.pr (.int .i64) (.int .i64))))) (.p (.n 64) (.p (.n 1) (.p (.n 1048576) (.p (.n 1) (.n 1048576))))) 192] (i,l))(hI:l=badN m i∧i≤m.2.1.length)=>have hv40:=(show i≤1048576 from hb5.1);have hv41:=(show l.length≤192 from hb5.2.1);have hll:=(show l.length≤i from hI.1▸BS m i);Sp (i<m.2.1.length) (fun h6=>I (?_:i<m.2.1.length) (Sp ((!(decide (inR m.1.length (m.2.1.getD i (0,(0,0))))))=true) (fun h7=>I (?_:Int.natAbs 1≤64) (I (?_:Int.natAbs (i:Int)≤1048576) (I (?_:Int.natAbs (-1)≤1048576) (I (?_:l.length=l.length) (I (show(i+1)≤1048576 by omega:Bnd (.nat .i64) (.n 1048576) (i+1)) (I (by(try simp only[List.length_append,List.length_cons,List.length_nil])<;>omega:l.length+[(1,-1,(i:Int),-1,(-1))].length=(l++[(1,-1,(i:Int),-1,(-1))]).length) (I (by(try simp only[List.length_append,List.length_cons,List.length_nil])<;>omega:l.length+[(1,-1,(i:Int),-1,(-1))].length≤192) (And.intro (⟨Sa hI.1 (md h7),by omega⟩:l++[(1,-1,(i:Int),-1,(-1))]=badN m (i+1)∧(i+1)≤m.2.1.length) (?_:m.2.1.length-(i+1)<m.2.1.length-i))))))))) (fun h8=>I (show(i+1)≤1048576 by omega:Bnd (.nat .i64) (.n 1048576) (i+1)) (I (?_:l.length=l.length) (And.intro (⟨S9 hI.1 (md' h8),by omega⟩:l=badN m (i+1)∧(i+1)≤m.2.1.length) (?_:m.2.1.length-(i+1)<m.2.1.length-i)))))) (fun h9=>Sp (0<l.length) (fun h10=>I (?_:l.length=l.length) ((Sd (not_or.2 ⟨h2,h4⟩) hI.1 h9 hI.2 h10:l=mkP m))) (fun h11=>I (?_:l.length=l.length) (I (⟨List.eq_nil_of_length_eq_zero (by omega),Nat.zero_le _⟩:l=thnN m 0∧0≤m.2.1.length) (fun(j:Nat)(k:List (Int×Int×Int×Int×Int))(hb12:HB [.s 54 (.nat .i64) (.n 1048576),.g 3 90002 (.pr (.int .i64) (.pr (.int .i64) (.pr (.int .i64) (.pr (.int .i64) (.int .i64))))) (.p (.n 64) (.p (.n 1) (.p (.n 1048576) (.p (.n 1) (.n 1048576))))) 192] (j,k))(hJ:k=thnN m j∧j≤m.2.1.length)=>have hv38:=(show j≤1048576 from hb12.1);have hv39:=(show k.length≤192 from hb12.2.1);have hkl:=(show k.length≤j from hJ.1▸Cs m j);have hin:=Kv hI.1 h9 hI.2 h11;have hTj:=BK hp0 j;Sp (j<m.2.1.length) (fun h13=>I (?_:j<m.2.1.length) (I (hp0:Bnd tMsh bMsh m) (I (hin j (by omega):inR m.1.length (m.2.1.getD j (0,(0,0)))) (Sp (decide (qz (qQ m.1 (m.2.1.getD j (0,(0,0))))=(0,0,0))=true) (fun h14=>I (?_:Int.natAbs 9≤64) (I (?_:Int.natAbs (j:Int)≤1048576) (I (?_:Int.natAbs (-1)≤1048576) (I (?_:k.length=k.length) (I (show(j+1)≤1048576 by omega:Bnd (.nat .i64) (.n 1048576) (j+1)) (I (by(try simp only[List.length_append,List.length_cons,List.length_nil])<;>omega:k.length+[(9,-1,(j:Int),-1,(-1))].length=(k++[(9,-1,(j:Int),-1,(-1))]).length) (I (by(try simp only[List.length_append,List.length_cons,List.length_nil])<;>omega:k.length+[(9,-1,(j:Int),-1,(-1))].length≤192) (And.intro (⟨T5 hJ.1 (yd h14),by omega⟩:k++[(9,-1,(j:Int),-1,(-1))]=thnN m (j+1)∧(j+1)≤m.2.1.length) (?_:m.2.1.length-(j+1)<m.2.1.length-j))))))))) (fun h15=>I (show(j+1)≤1048576 by omega:Bnd (.nat .i64) (.n 1048576) (j+1)) (I (?_:k.length=k.length) (And.intro (⟨T4 hJ.1 (yd' h15),by omega⟩:k=thnN m (j+1)∧(j+1)≤m.2.1.length) (?_:m.2.1.length-(j+1)<m.2.1.length-j)))))))) (fun h16=>Sp (0<k.length) (fun h17=>I (?_:k.length=k.length) ((Se (not_or.2 ⟨h2,h4⟩) hI.1 h9 hI.2 h11 hJ.1 h16 hJ.2 h17:k=mkP m))) (fun h18=>I (hp0:Bnd tMsh bMsh m) (I (?_:k.length=k.length) (I (⟨List.eq_nil_of_length_eq_zero (by omega),Nat.zero_le _⟩:k=opnN (cP m) m 0∧0≤m.2.1.length) (fun(q:Nat)(o:List (Int×Int×Int×Int×Int))(hb19:HB [.s 78 (.nat .i64) (.n 1048576),.g 3 90003 (.pr (.int .i64) (.pr (.int .i64) (.pr (.int .i64) (.pr (.int .i64) (.int .i64))))) (.p (.n 64) (.p (.n 1) (.p (.n 1048576) (.p (.n 1) (.n 1048576))))) 192] (q,o))(hK:o=opnN (cP m) m q∧q≤m.2.1.length)=>have hv36:=(show q≤1048576 from hb19.1);have hv37:=(show o.length≤192 from hb19.2.1);have hol:=(show o.length≤3*q from hK.1▸Ck (cP m) m q);have hTq:=BK hp0 q;Sp (q<m.2.1.length) (fun h20=>I (?_:q<m.2.1.length) (I (?_:Int.natAbs ((m.2.1.getD q (0,(0,0))).1)≤4611686018427387904) (I (?_:Int.natAbs (((m.2.1.getD q (0,(0,0))).2).1)≤4611686018427387904) (I (?_:Int.natAbs (((m.2.1.getD q (0,(0,0))).2).1)≤4611686018427387904) (I (?_:Int.natAbs ((m.2.1.getD q (0,(0,0))).1)≤4611686018427387904) (Sp (getM (edM m) (((m.2.1.getD q (0,(0,0))).2).1,(m.2.1.getD q (0,(0,0))).1)<getM (edM m) ((m.2.1.getD q (0,(0,0))).1,((m.2.1.getD q (0,(0,0))).2).1)) (fun h21=>I (?_:Int.natAbs 30≤64) (I (?_:Int.natAbs (q:Int)≤1048576) (I (?_:Int.natAbs 0≤1048576) (I (?_:o.length=o.length) (I (?_:Int.natAbs (((m.2.1.getD q (0,(0,0))).2).1)≤4611686018427387904) (I (?_:Int.natAbs (((m.2.1.getD q (0,(0,0))).2).2)≤4611686018427387904) (I (?_:Int.natAbs (((m.2.1.getD q (0,(0,0))).2).2)≤4611686018427387904) (I (?_:Int.natAbs (((m.2.1.getD q (0,(0,0))).2).1)≤4611686018427387904) (Sp (getM (edM m) (((m.2.1.getD q (0,(0,0))).2).2,((m.2.1.getD q (0,(0,0))).2).1)<getM (edM m) (((m.2.1.getD q (0,(0,0))).2).1,((m.2.1.getD q (0,(0,0))).2).2)) (fun h22=>I (?_:Int.natAbs 30≤64) (I (?_:Int.natAbs (q:Int)≤1048576) (I (?_:Int.natAbs 1≤1048576) (I (by(try simp only[List.length_append,List.length_cons,List.length_nil])<;>omega:o.length+[(30,-1,(q:Int),-1,0)].length=(o++[(30,-1,(q:Int),-1,0)]).length) (I (?_:Int.natAbs (((m.2.1.getD q (0,(0,0))).2).2)≤4611686018427387904) (I (?_:Int.natAbs ((m.2.1.getD q (0,(0,0))).1)≤4611686018427387904) (I (?_:Int.natAbs ((m.2.1.getD q (0,(0,0))).1)≤4611686018427387904) (I (?_:Int.natAbs (((m.2.1.getD q (0,(0,0))).2).2)≤4611686018427387904) (Sp (getM (edM m) ((m.2.1.getD q (0,(0,0))).1,((m.2.1.getD q (0,(0,0))).2).2)<getM (edM m) (((m.2.1.getD q (0,(0,0))).2).2,(m.2.1.getD q (0,(0,0))).1)) (fun h23=>I (?_:Int.natAbs 30≤64) (I (?_:Int.natAbs (q:Int)≤1048576) (I (?_:Int.natAbs 2≤1048576) (I (by(try simp only[List.length_append,List.length_cons,List.length_nil])<;>omega:(o.length+[(30,-1,(q:Int),-1,0)].length)+[(30,-1,(q:Int),-1,1)].length=((o++[(30,-1,(q:Int),-1,0)])++[(30,-1,(q:Int),-1,1)]).length) (I (show(q+1)≤1048576 by omega:Bnd (.nat .i64) (.n 1048576) (q+1)) (I (by(try simp only[List.length_append,List.length_cons,List.length_nil])<;>omega:((o.length+[(30,-1,(q:Int),-1,0)].length)+[(30,-1,(q:Int),-1,1)].length)+[(30,-1,(q:Int),-1,2)].length=(((o++[(30,-1,(q:Int),-1,0)])++[(30,-1,(q:Int),-1,1)])++[(30,-1,(q:Int),-1,2)]).length) (I (by(try simp only[List.length_append,List.length_cons,List.length_nil])<;>omega:((o.length+[(30,-1,(q:Int),-1,0)].length)+[(30,-1,(q:Int),-1,1)].length)+[(30,-1,(q:Int),-1,2)].length≤192) (And.intro (⟨vp (c:=cP m) hK.1 (op_y (decide_eq_true h21)) (op_y (decide_eq_true h22)) (op_y (decide_eq_true h23)),by omega⟩:((o++[(30,-1,(q:Int),-1,0)])++[(30,-1,(q:Int),-1,1)])++[(30,-1,(q:Int),-1,2)]=opnN (cP m) m (q+1)∧(q+1)≤m.2.1.length) (?_:m.2.1.length-(q+1)<m.2.1.length-q))))))))) (fun h24=>I (show(q+1)≤1048576 by omega:Bnd (.nat .i64) (.n 1048576) (q+1)) (I (by(try simp only[List.length_append,List.length_cons,List.length_nil])<;>omega:(o.length+[(30,-1,(q:Int),-1,0)].length)+[(30,-1,(q:Int),-1,1)].length=((o++[(30,-1,(q:Int),-1,0)])++[(30,-1,(q:Int),-1,1)]).length) (I (by(try simp only[List.length_append,List.length_cons,List.length_nil])<;>omega:(o.length+[(30,-1,(q:Int),-1,0)].length)+[(30,-1,(q:Int),-1,1)].length≤192) (And.intro (⟨vp (c:=cP m) hK.1 (op_y (decide_eq_true h21)) (op_y (decide_eq_true h22)) (op_n (fun e=>h24 (of_decide_eq_true e))),by omega⟩:(o++[(30,-1,(q:Int),-1,0)])++[(30,-1,(q:Int),-1,1)]=opnN (cP m) m (q+1)∧(q+1)≤m.2.1.length) (?_:m.2.1.length-(q+1)<m.2.1.length-q)))))))))))))) (fun h25=>I (?_:Int.natAbs (((m.2.1.getD q (0,(0,0))).2).2)≤4611686018427387904) (I (?_:Int.natAbs ((m.2.1.getD q (0,(0,0))).1)≤4611686018427387904) (I (?_:Int.natAbs ((m.2.1.getD q (0,(0,0))).1)≤4611686018427387904) (I (?_:Int.natAbs (((m.2.1.getD q (0,(0,0))).2).2)≤4611686018427387904) (Sp (getM (edM m) ((m.2.1.getD q (0,(0,0))).1,((m.2.1.getD q (0,(0,0))).2).2)<getM (edM m) (((m.2.1.getD q (0,(0,0))).2).2,(m.2.1.getD q (0,(0,0))).1)) (fun h26=>I (?_:Int.natAbs 30≤64) (I (?_:Int.natAbs (q:Int)≤1048576) (I (?_:Int.natAbs 2≤1048576) (I (by(try simp only[List.length_append,List.length_cons,List.length_nil])<;>omega:o.length+[(30,-1,(q:Int),-1,0)].length=(o++[(30,-1,(q:Int),-1,0)]).length) (I (show(q+1)≤1048576 by omega:Bnd (.nat .i64) (.n 1048576) (q+1)) (I (by(try simp only[List.length_append,List.length_cons,List.length_nil])<;>omega:(o.length+[(30,-1,(q:Int),-1,0)].length)+[(30,-1,(q:Int),-1,2)].length=((o++[(30,-1,(q:Int),-1,0)])++[(30,-1,(q:Int),-1,2)]).length) (I (by(try simp only[List.length_append,List.length_cons,List.length_nil])<;>omega:(o.length+[(30,-1,(q:Int),-1,0)].length)+[(30,-1,(q:Int),-1,2)].length≤192) (And.intro (⟨vp (c:=cP m) hK.1 (op_y (decide_eq_true h21)) (op_n (fun e=>h25 (of_decide_eq_true e))) (op_y (decide_eq_true h26)),by omega⟩:(o++[(30,-1,(q:Int),-1,0)])++[(30,-1,(q:Int),-1,2)]=opnN (cP m) m (q+1)∧(q+1)≤m.2.1.length) (?_:m.2.1.length-(q+1)<m.2.1.length-q))))))))) (fun h27=>I (show(q+1)≤1048576 by omega:Bnd (.nat .i64) (.n 1048576) (q+1)) (I (by(try simp only[List.length_append,List.length_cons,List.length_nil])<;>omega:o.length+[(30,-1,(q:Int),-1,0)].length=(o++[(30,-1,(q:Int),-1,0)]).length) (I (by(try simp only[List.length_append,List.length_cons,List.length_nil])<;>omega:o.length+[(30,-1,(q:Int),-1,0)].length≤192) (And.intro (⟨vp (c:=cP m) hK.1 (op_y (decide_eq_true h21)) (op_n (fun e=>h25 (of_decide_eq_true e))) (op_n (fun e=>h27 (of_decide_eq_true e))),by omega⟩:o++[(30,-1,(q:Int),-1,0)]=opnN (cP m) m (q+1)∧(q+1)≤m.2.1.length) (?_:m.2.1.length-(q+1)<m.2.1.length-q))))))))))))))))))) (fun h28=>I (?_:Int.natAbs (((m.2.1.getD q (0,(0,0))).2).1)≤4611686018427387904) (I (?_:Int.natAbs (((m.2.1.getD q (0,(0,0))).2).2)≤4611686018427387904) (I (?_:Int.natAbs (((m.2.1.getD q (0,(0,0))).2).2)≤4611686018427387904) (I (?_:Int.natAbs (((m.2.1.getD q (0,(0,0))).2).1)≤4611686018427387904) (Sp (getM (edM m) (((m.2.1.getD q (0,(0,0))).2).2,((m.2.1.getD q (0,(0,0))).2).1)<getM (edM m) (((m.2.1.getD q (0,(0,0))).2).1,((m.2.1.getD q (0,(0,0))).2).2)) (fun h29=>I (?_:Int.natAbs 30≤64) (I (?_:Int.natAbs (q:Int)≤1048576) (I (?_:Int.natAbs 1≤1048576) (I (?_:o.length=o.length) (I (?_:Int.natAbs (((m.2.1.getD q (0,(0,0))).2).2)≤4611686018427387904) (I (?_:Int.natAbs ((m.2.1.getD q (0,(0,0))).1)≤4611686018427387904) (I (?_:Int.natAbs ((m.2.1.getD q (0,(0,0))).1)≤4611686018427387904) (I (?_:Int.natAbs (((m.2.1.getD q (0,(0,0))).2).2)≤4611686018427387904) (Sp (getM (edM m) ((m.2.1.getD q (0,(0,0))).1,((m.2.1.getD q (0,(0,0))).2).2)<getM (edM m) (((m.2.1.getD q (0,(0,0))).2).2,(m.2.1.getD q (0,(0,0))).1)) (fun h30=>I (?_:Int.natAbs 30≤64) (I (?_:Int.natAbs (q:Int)≤1048576) (I (?_:Int.natAbs 2≤1048576) (I (by(try simp only[List.length_append,List.length_cons,List.length_nil])<;>omega:o.length+[(30,-1,(q:Int),-1,1)].length=(o++[(30,-1,(q:Int),-1,1)]).length) (I (show(q+1)≤1048576 by omega:Bnd (.nat .i64) (.n 1048576) (q+1)) (I (by(try simp only[List.length_append,List.length_cons,List.length_nil])<;>omega:(o.length+[(30,-1,(q:Int),-1,1)].length)+[(30,-1,(q:Int),-1,2)].length=((o++[(30,-1,(q:Int),-1,1)])++[(30,-1,(q:Int),-1,2)]).length) (I (by(try simp only[List.length_append,List.length_cons,List.length_nil])<;>omega:(o.length+[(30,-1,(q:Int),-1,1)].length)+[(30,-1,(q:Int),-1,2)].length≤192) (And.intro (⟨vp (c:=cP m) hK.1 (op_n (fun e=>h28 (of_decide_eq_true e))) (op_y (decide_eq_true h29)) (op_y (decide_eq_true h30)),by omega⟩:(o++[(30,-1,(q:Int),-1,1)])++[(30,-1,(q:Int),-1,2)]=opnN (cP m) m (q+1)∧(q+1)≤m.2.1.length) (?_:m.2.1.length-(q+1)<m.2.1.length-q))))))))) (fun h31=>I (show(q+1)≤1048576 by omega:Bnd (.nat .i64) (.n 1048576) (q+1)) (I (by(try simp only[List.length_append,List.length_cons,List.length_nil])<;>omega:o.length+[(30,-1,(q:Int),-1,1)].length=(o++[(30,-1,(q:Int),-1,1)]).length) (I (by(try simp only[List.length_append,List.length_cons,List.length_nil])<;>omega:o.length+[(30,-1,(q:Int),-1,1)].length≤192) (And.intro (⟨vp (c:=cP m) hK.1 (op_n (fun e=>h28 (of_decide_eq_true e))) (op_y (decide_eq_true h29)) (op_n (fun e=>h31 (of_decide_eq_true e))),by omega⟩:o++[(30,-1,(q:Int),-1,1)]=opnN (cP m) m (q+1)∧(q+1)≤m.2.1.length) (?_:m.2.1.length-(q+1)<m.2.1.length-q)))))))))))))) (fun h32=>I (?_:Int.natAbs (((m.2.1.getD q (0,(0,0))).2).2)≤4611686018427387904) (I (?_:Int.natAbs ((m.2.1.getD q (0,(0,0))).1)≤4611686018427387904) (I (?_:Int.natAbs ((m.2.1.getD q (0,(0,0))).1)≤4611686018427387904) (I (?_:Int.natAbs (((m.2.1.getD q (0,(0,0))).2).2)≤4611686018427387904) (Sp (getM (edM m) ((m.2.1.getD q (0,(0,0))).1,((m.2.1.getD q (0,(0,0))).2).2)<getM (edM m) (((m.2.1.getD q (0,(0,0))).2).2,(m.2.1.getD q (0,(0,0))).1)) (fun h33=>I (?_:Int.natAbs 30≤64) (I (?_:Int.natAbs (q:Int)≤1048576) (I (?_:Int.natAbs 2≤1048576) (I (?_:o.length=o.length) (I (show(q+1)≤1048576 by omega:Bnd (.nat .i64) (.n 1048576) (q+1)) (I (by(try simp only[List.length_append,List.length_cons,List.length_nil])<;>omega:o.length+[(30,-1,(q:Int),-1,2)].length=(o++[(30,-1,(q:Int),-1,2)]).length) (I (by(try simp only[List.length_append,List.length_cons,List.length_nil])<;>omega:o.length+[(30,-1,(q:Int),-1,2)].length≤192) (And.intro (⟨vp (c:=cP m) hK.1 (op_n (fun e=>h28 (of_decide_eq_true e))) (op_n (fun e=>h32 (of_decide_eq_true e))) (op_y (decide_eq_true h33)),by omega⟩:o++[(30,-1,(q:Int),-1,2)]=opnN (cP m) m (q+1)∧(q+1)≤m.2.1.length) (?_:m.2.1.length-(q+1)<m.2.1.length-q))))))))) (fun h34=>I (show(q+1)≤1048576 by omega:Bnd (.nat .i64) (.n 1048576) (q+1)) (I (?_:o.length=o.length) (And.intro (⟨vp (c:=cP m) hK.1 (op_n (fun e=>h28 (of_decide_eq_true e))) (op_n (fun e=>h32 (of_decide_eq_true e))) (op_n (fun e=>h34 (of_decide_eq_true e))),by omega⟩:o=opnN (cP m) m (q+1)∧(q+1)≤m.2.1.length) (?_:m.2.1.length-(q+1)<m.2.1.length-q)))))))))))))))))))) (fun h35=>I (?_:o.length=o.length) ((Sf (not_or.2 ⟨h2,h4⟩) hI.1 h9 hI.2 h11 hJ.1 h16 hJ.2 h18 hK.1 h35 hK.2:o=mkP m)))))))))))))))))⟩<;>omega)
abbrev Qn:Ctr Tryz.prog:=FI.c Qp
abbrev Rq:FI:=⟨162,[(.pr (.sl (.pr .rat (.pr .rat .rat))) (.pr (.sl (.pr (.int .i64) (.pr (.int .i64) (.int .i64)))) (.sl (.int .i64)))),(.int .i64),(.int .i64)],[(.p (.s 64 (.p (.n 64) (.p (.n 64) (.n 64)))) (.p (.s 64 (.p (.n 1048576) (.p (.n 1048576) (.n 1048576)))) (.s 64 (.n 1048576)))),(.n 1048576),(.n 1048576)],fun z=>(fun(m:(List (Rat×Rat×Rat))×(List (Int×Int×Int))×List Int)(a:Int)(b_:Int)=>[Bnd tMsh bMsh m]) z.1 z.2.1 z.2.2,fun b z=>(fun(m:(List (Rat×Rat×Rat))×(List (Int×Int×Int))×List Int)(a:Int)(b_:Int)=> .c (.one (.dt (.nat .i64) (.n 192) (timM m a b_)))) z.1 z.2.1 z.2.2⟩
theorem Rr:Rq.OK Tryz.prog:=mkF hmix 46 Tryz.func162 rfl rfl (by decide) [] (fun(m:(List (Rat×Rat×Rat))×(List (Int×Int×Int))×List Int)(a:Int)(b_:Int) b hx hp=>qa (show timM m a b_≤192 from by have h1:=GV m a b_ m.2.1.length;have h2:=(hp _ List.mem_cons_self:Bnd tMsh bMsh m).2.1.1;show timN _ _ _ _≤192;omega) rfl) (fun(m:(List (Rat×Rat×Rat))×(List (Int×Int×Int))×List Int)(a:Int)(b_:Int) hx hp=>by
 have hx1:Int.natAbs a≤1048576:=hx.2.1
 have hx2:Int.natAbs b_≤1048576:=hx.2.2
 have hp0:Bnd tMsh bMsh m:=hp _ (List.mem_cons_self)
 have hml:m.2.1.length≤64:=hp0.2.1.1
 refine⟨.loop [.s 8 (.nat .i64) (.n 1048576),.s 7 (.nat .i64) (.n 1048576)] (fun((i,t):Nat×Nat)=>t=timN m a b_ i∧i≤m.2.1.length) (fun((i,t):Nat×Nat)=>m.2.1.length-i) (fun((i,t):Nat×Nat)=> .nil),kcast (by kernel_rfl) (I (⟨rfl,Nat.zero_le _⟩:0=timN m a b_ 0∧0≤m.2.1.length) (fun(i:Nat)(t:Nat)(hb1:HB [.s 8 (.nat .i64) (.n 1048576),.s 7 (.nat .i64) (.n 1048576)] (i,t))(hI:t=timN m a b_ i∧i≤m.2.1.length)=>have hv56:=(show i≤1048576 from hb1.1);have hv57:=(show t≤1048576 from hb1.2);have htl:=(show t≤3*i from hI.1▸GV m a b_ i);Sp (i<m.2.1.length) (fun h2=>I (?_:i<m.2.1.length) (Sp ((m.2.1.getD i (0,(0,0))).1=a) (fun h3=>I (?_:i<m.2.1.length) (Sp (((m.2.1.getD i (0,(0,0))).2).1=b_) (fun h4=>I (?_:i<m.2.1.length) (Sp (((m.2.1.getD i (0,(0,0))).2).1=a) (fun h5=>I (?_:i<m.2.1.length) (Sp (((m.2.1.getD i (0,(0,0))).2).2=b_) (fun h6=>I (?_:i<m.2.1.length) (Sp (((m.2.1.getD i (0,(0,0))).2).2=a) (fun h7=>I (?_:i<m.2.1.length) (Sp ((m.2.1.getD i (0,(0,0))).1=b_) (fun h8=>I (show(i+1)≤1048576 by omega:Bnd (.nat .i64) (.n 1048576) (i+1)) (I (show(((t+1)+1)+1)≤1048576 by omega:Bnd (.nat .i64) (.n 1048576) (((t+1)+1)+1)) (And.intro (⟨jg hI.1 (tm_y h3 h4) (tm_y h5 h6) (tm_y h7 h8),by omega⟩:(((t+1)+1)+1)=timN m a b_ (i+1)∧(i+1)≤m.2.1.length) (?_:m.2.1.length-(i+1)<m.2.1.length-i)))) (fun h9=>I (show(i+1)≤1048576 by omega:Bnd (.nat .i64) (.n 1048576) (i+1)) (I (show((t+1)+1)≤1048576 by omega:Bnd (.nat .i64) (.n 1048576) ((t+1)+1)) (And.intro (⟨jg hI.1 (tm_y h3 h4) (tm_y h5 h6) (tm_2 h9),by omega⟩:((t+1)+1)=timN m a b_ (i+1)∧(i+1)≤m.2.1.length) (?_:m.2.1.length-(i+1)<m.2.1.length-i)))))) (fun h10=>I (show(i+1)≤1048576 by omega:Bnd (.nat .i64) (.n 1048576) (i+1)) (I (show((t+1)+1)≤1048576 by omega:Bnd (.nat .i64) (.n 1048576) ((t+1)+1)) (And.intro (⟨jg hI.1 (tm_y h3 h4) (tm_y h5 h6) (tm_1 h10),by omega⟩:((t+1)+1)=timN m a b_ (i+1)∧(i+1)≤m.2.1.length) (?_:m.2.1.length-(i+1)<m.2.1.length-i)))))) (fun h11=>I (?_:i<m.2.1.length) (Sp (((m.2.1.getD i (0,(0,0))).2).2=a) (fun h12=>I (?_:i<m.2.1.length) (Sp ((m.2.1.getD i (0,(0,0))).1=b_) (fun h13=>I (show(i+1)≤1048576 by omega:Bnd (.nat .i64) (.n 1048576) (i+1)) (I (show((t+1)+1)≤1048576 by omega:Bnd (.nat .i64) (.n 1048576) ((t+1)+1)) (And.intro (⟨jg hI.1 (tm_y h3 h4) (tm_2 h11) (tm_y h12 h13),by omega⟩:((t+1)+1)=timN m a b_ (i+1)∧(i+1)≤m.2.1.length) (?_:m.2.1.length-(i+1)<m.2.1.length-i)))) (fun h14=>I (show(i+1)≤1048576 by omega:Bnd (.nat .i64) (.n 1048576) (i+1)) (I (show(t+1)≤1048576 by omega:Bnd (.nat .i64) (.n 1048576) (t+1)) (And.intro (⟨jg hI.1 (tm_y h3 h4) (tm_2 h11) (tm_2 h14),by omega⟩:(t+1)=timN m a b_ (i+1)∧(i+1)≤m.2.1.length) (?_:m.2.1.length-(i+1)<m.2.1.length-i)))))) (fun h15=>I (show(i+1)≤1048576 by omega:Bnd (.nat .i64) (.n 1048576) (i+1)) (I (show(t+1)≤1048576 by omega:Bnd (.nat .i64) (.n 1048576) (t+1)) (And.intro (⟨jg hI.1 (tm_y h3 h4) (tm_2 h11) (tm_1 h15),by omega⟩:(t+1)=timN m a b_ (i+1)∧(i+1)≤m.2.1.length) (?_:m.2.1.length-(i+1)<m.2.1.length-i)))))))) (fun h16=>I (?_:i<m.2.1.length) (Sp (((m.2.1.getD i (0,(0,0))).2).2=a) (fun h17=>I (?_:i<m.2.1.length) (Sp ((m.2.1.getD i (0,(0,0))).1=b_) (fun h18=>I (show(i+1)≤1048576 by omega:Bnd (.nat .i64) (.n 1048576) (i+1)) (I (show((t+1)+1)≤1048576 by omega:Bnd (.nat .i64) (.n 1048576) ((t+1)+1)) (And.intro (⟨jg hI.1 (tm_y h3 h4) (tm_1 h16) (tm_y h17 h18),by omega⟩:((t+1)+1)=timN m a b_ (i+1)∧(i+1)≤m.2.1.length) (?_:m.2.1.length-(i+1)<m.2.1.length-i)))) (fun h19=>I (show(i+1)≤1048576 by omega:Bnd (.nat .i64) (.n 1048576) (i+1)) (I (show(t+1)≤1048576 by omega:Bnd (.nat .i64) (.n 1048576) (t+1)) (And.intro (⟨jg hI.1 (tm_y h3 h4) (tm_1 h16) (tm_2 h19),by omega⟩:(t+1)=timN m a b_ (i+1)∧(i+1)≤m.2.1.length) (?_:m.2.1.length-(i+1)<m.2.1.length-i)))))) (fun h20=>I (show(i+1)≤1048576 by omega:Bnd (.nat .i64) (.n 1048576) (i+1)) (I (show(t+1)≤1048576 by omega:Bnd (.nat .i64) (.n 1048576) (t+1)) (And.intro (⟨jg hI.1 (tm_y h3 h4) (tm_1 h16) (tm_1 h20),by omega⟩:(t+1)=timN m a b_ (i+1)∧(i+1)≤m.2.1.length) (?_:m.2.1.length-(i+1)<m.2.1.length-i)))))))) (fun h21=>I (?_:i<m.2.1.length) (Sp (((m.2.1.getD i (0,(0,0))).2).1=a) (fun h22=>I (?_:i<m.2.1.length) (Sp (((m.2.1.getD i (0,(0,0))).2).2=b_) (fun h23=>I (?_:i<m.2.1.length) (Sp (((m.2.1.getD i (0,(0,0))).2).2=a) (fun h24=>I (?_:i<m.2.1.length) (Sp ((m.2.1.getD i (0,(0,0))).1=b_) (fun h25=>I (show(i+1)≤1048576 by omega:Bnd (.nat .i64) (.n 1048576) (i+1)) (I (show((t+1)+1)≤1048576 by omega:Bnd (.nat .i64) (.n 1048576) ((t+1)+1)) (And.intro (⟨jg hI.1 (tm_2 h21) (tm_y h22 h23) (tm_y h24 h25),by omega⟩:((t+1)+1)=timN m a b_ (i+1)∧(i+1)≤m.2.1.length) (?_:m.2.1.length-(i+1)<m.2.1.length-i)))) (fun h26=>I (show(i+1)≤1048576 by omega:Bnd (.nat .i64) (.n 1048576) (i+1)) (I (show(t+1)≤1048576 by omega:Bnd (.nat .i64) (.n 1048576) (t+1)) (And.intro (⟨jg hI.1 (tm_2 h21) (tm_y h22 h23) (tm_2 h26),by omega⟩:(t+1)=timN m a b_ (i+1)∧(i+1)≤m.2.1.length) (?_:m.2.1.length-(i+1)<m.2.1.length-i)))))) (fun h27=>I (show(i+1)≤1048576 by omega:Bnd (.nat .i64) (.n 1048576) (i+1)) (I (show(t+1)≤1048576 by omega:Bnd (.nat .i64) (.n 1048576) (t+1)) (And.intro (⟨jg hI.1 (tm_2 h21) (tm_y h22 h23) (tm_1 h27),by omega⟩:(t+1)=timN m a b_ (i+1)∧(i+1)≤m.2.1.length) (?_:m.2.1.length-(i+1)<m.2.1.length-i)))))) (fun h28=>I (?_:i<m.2.1.length) (Sp (((m.2.1.getD i (0,(0,0))).2).2=a) (fun h29=>I (?_:i<m.2.1.length) (Sp ((m.2.1.getD i (0,(0,0))).1=b_) (fun h30=>I (show(i+1)≤1048576 by omega:Bnd (.nat .i64) (.n 1048576) (i+1)) (I (show(t+1)≤1048576 by omega:Bnd (.nat .i64) (.n 1048576) (t+1)) (And.intro (⟨jg hI.1 (tm_2 h21) (tm_2 h28) (tm_y h29 h30),by omega⟩:(t+1)=timN m a b_ (i+1)∧(i+1)≤m.2.1.length) (?_:m.2.1.length-(i+1)<m.2.1.length-i)))) (fun h31=>I (show(i+1)≤1048576 by omega:Bnd (.nat .i64) (.n 1048576) (i+1)) (And.intro (⟨jg hI.1 (tm_2 h21) (tm_2 h28) (tm_2 h31),by omega⟩:t=timN m a b_ (i+1)∧(i+1)≤m.2.1.length) (?_:m.2.1.length-(i+1)<m.2.1.length-i))))) (fun h32=>I (show(i+1)≤1048576 by omega:Bnd (.nat .i64) (.n 1048576) (i+1)) (And.intro (⟨jg hI.1 (tm_2 h21) (tm_2 h28) (tm_1 h32),by omega⟩:t=timN m a b_ (i+1)∧(i+1)≤m.2.1.length) (?_:m.2.1.length-(i+1)<m.2.1.length-i))))))) (fun h33=>I (?_:i<m.2.1.length) (Sp (((m.2.1.getD i (0,(0,0))).2).2=a) (fun h34=>I (?_:i<m.2.1.length) (Sp ((m.2.1.getD i (0,(0,0))).1=b_) (fun h35=>I (show(i+1)≤1048576 by omega:Bnd (.nat .i64) (.n 1048576) (i+1)) (I (show(t+1)≤1048576 by omega:Bnd (.nat .i64) (.n 1048576) (t+1)) (And.intro (⟨jg hI.1 (tm_2 h21) (tm_1 h33) (tm_y h34 h35),by omega⟩:(t+1)=timN m a b_ (i+1)∧(i+1)≤m.2.1.length) (?_:m.2.1.length-(i+1)<m.2.1.length-i)))) (fun h36=>I (show(i+1)≤1048576 by omega:Bnd (.nat .i64) (.n 1048576) (i+1)) (And.intro (⟨jg hI.1 (tm_2 h21) (tm_1 h33) (tm_2 h36),by omega⟩:t=timN m a b_ (i+1)∧(i+1)≤m.2.1.length) (?_:m.2.1.length-(i+1)<m.2.1.length-i))))) (fun h37=>I (show(i+1)≤1048576 by omega:Bnd (.nat .i64) (.n 1048576) (i+1)) (And.intro (⟨jg hI.1 (tm_2 h21) (tm_1 h33) (tm_1 h37),by omega⟩:t=timN m a b_ (i+1)∧(i+1)≤m.2.1.length) (?_:m.2.1.length-(i+1)<m.2.1.length-i))))))))) (fun h38=>I (?_:i<m.2.1.length) (Sp (((m.2.1.getD i (0,(0,0))).2).1=a) (fun h39=>I (?_:i<m.2.1.length) (Sp (((m.2.1.getD i (0,(0,0))).2).2=b_) (fun h40=>I (?_:i<m.2.1.length) (Sp (((m.2.1.getD i (0,(0,0))).2).2=a) (fun h41=>I (?_:i<m.2.1.length) (Sp ((m.2.1.getD i (0,(0,0))).1=b_) (fun h42=>I (show(i+1)≤1048576 by omega:Bnd (.nat .i64) (.n 1048576) (i+1)) (I (show((t+1)+1)≤1048576 by omega:Bnd (.nat .i64) (.n 1048576) ((t+1)+1)) (And.intro (⟨jg hI.1 (tm_1 h38) (tm_y h39 h40) (tm_y h41 h42),by omega⟩:((t+1)+1)=timN m a b_ (i+1)∧(i+1)≤m.2.1.length) (?_:m.2.1.length-(i+1)<m.2.1.length-i)))) (fun h43=>I (show(i+1)≤1048576 by omega:Bnd (.nat .i64) (.n 1048576) (i+1)) (I (show(t+1)≤1048576 by omega:Bnd (.nat .i64) (.n 1048576) (t+1)) (And.intro (⟨jg hI.1 (tm_1 h38) (tm_y h39 h40) (tm_2 h43),by omega⟩:(t+1)=timN m a b_ (i+1)∧(i+1)≤m.2.1.length) (?_:m.2.1.length-(i+1)<m.2.1.length-i)))))) (fun h44=>I (show(i+1)≤1048576 by omega:Bnd (.nat .i64) (.n 1048576) (i+1)) (I (show(t+1)≤1048576 by omega:Bnd (.nat .i64) (.n 1048576) (t+1)) (And.intro (⟨jg hI.1 (tm_1 h38) (tm_y h39 h40) (tm_1 h44),by omega⟩:(t+1)=timN m a b_ (i+1)∧(i+1)≤m.2.1.length) (?_:m.2.1.length-(i+1)<m.2.1.length-i)))))) (fun h45=>I (?_:i<m.2.1.length) (Sp (((m.2.1.getD i (0,(0,0))).2).2=a) (fun h46=>I (?_:i<m.2.1.length) (Sp ((m.2.1.getD i (0,(0,0))).1=b_) (fun h47=>I (show(i+1)≤1048576 by omega:Bnd (.nat .i64) (.n 1048576) (i+1)) (I (show(t+1)≤1048576 by omega:Bnd (.nat .i64) (.n 1048576) (t+1)) (And.intro (⟨jg hI.1 (tm_1 h38) (tm_2 h45) (tm_y h46 h47),by omega⟩:(t+1)=timN m a b_ (i+1)∧(i+1)≤m.2.1.length) (?_:m.2.1.length-(i+1)<m.2.1.length-i)))) (fun h48=>I (show(i+1)≤1048576 by omega:Bnd (.nat .i64) (.n 1048576) (i+1)) (And.intro (⟨jg hI.1 (tm_1 h38) (tm_2 h45) (tm_2 h48),by omega⟩:t=timN m a b_ (i+1)∧(i+1)≤m.2.1.length) (?_:m.2.1.length-(i+1)<m.2.1.length-i))))) (fun h49=>I (show(i+1)≤1048576 by omega:Bnd (.nat .i64) (.n 1048576) (i+1)) (And.intro (⟨jg hI.1 (tm_1 h38) (tm_2 h45) (tm_1 h49),by omega⟩:t=timN m a b_ (i+1)∧(i+1)≤m.2.1.length) (?_:m.2.1.length-(i+1)<m.2.1.length-i))))))) (fun h50=>I (?_:i<m.2.1.length) (Sp (((m.2.1.getD i (0,(0,0))).2).2=a) (fun h51=>I (?_:i<m.2.1.length) (Sp ((m.2.1.getD i (0,(0,0))).1=b_) (fun h52=>I (show(i+1)≤1048576 by omega:Bnd (.nat .i64) (.n 1048576) (i+1)) (I (show(t+1)≤1048576 by omega:Bnd (.nat .i64) (.n 1048576) (t+1)) (And.intro (⟨jg hI.1 (tm_1 h38) (tm_1 h50) (tm_y h51 h52),by omega⟩:(t+1)=timN m a b_ (i+1)∧(i+1)≤m.2.1.length) (?_:m.2.1.length-(i+1)<m.2.1.length-i)))) (fun h53=>I (show(i+1)≤1048576 by omega:Bnd (.nat .i64) (.n 1048576) (i+1)) (And.intro (⟨jg hI.1 (tm_1 h38) (tm_1 h50) (tm_2 h53),by omega⟩:t=timN m a b_ (i+1)∧(i+1)≤m.2.1.length) (?_:m.2.1.length-(i+1)<m.2.1.length-i))))) (fun h54=>I (show(i+1)≤1048576 by omega:Bnd (.nat .i64) (.n 1048576) (i+1)) (And.intro (⟨jg hI.1 (tm_1 h38) (tm_1 h50) (tm_1 h54),by omega⟩:t=timN m a b_ (i+1)∧(i+1)≤m.2.1.length) (?_:m.2.1.length-(i+1)<m.2.1.length-i))))))))) (fun h55=>(by rw[hI.1,show i=m.2.1.length by omega]:t=timM m a b_))))⟩<;>omega)
abbrev Rp:Ctr Tryz.prog:=FI.c Rr
abbrev R7:FI:=⟨91,[(.pr (.sl (.pr .rat (.pr .rat .rat))) (.pr (.sl (.pr (.int .i64) (.pr (.int .i64) (.int .i64)))) (.sl (.int .i64))))],[(.p (.s 64 (.p (.n 64) (.p (.n 64) (.n 64)))) (.p (.s 64 (.p (.n 1048576) (.p (.n 1048576) (.n 1048576)))) (.s 64 (.n 1048576))))],fun z=>(fun(m:(List (Rat×Rat×Rat))×(List (Int×Int×Int))×List Int)=>[Bnd tMsh bMsh m]) z,fun b z=>(fun(m:(List (Rat×Rat×Rat))×(List (Int×Int×Int))×List Int)=> .c (.one (.dt (.sl tDg) (.s 192 bDg) (mkR m)))) z⟩
theorem R8:R7.OK Tryz.prog:=mkF hmix 110 Tryz.func91 rfl rfl (by decide) [(58,.c KP),(93,.c Jr),(160,.c ZK),(161,.c Rl),(162,.c Rp)] (fun(m:(List (Rat×Rat×Rat))×(List (Int×Int×Int))×List Int) b hx hp=>qa (Gx (hp _ List.mem_cons_self)) rfl) (fun(m:(List (Rat×Rat×Rat))×(List (Int×Int×Int))×List Int) hx hp=>by
 have hp0:Bnd tMsh bMsh m:=hp _ (List.mem_cons_self)
 have hml:m.2.1.length≤64:=hp0.2.1.1
 refine⟨.cond (.h 2 1 (.mk (.im (.pr (.int .i64) (.pr (.int .i64) (.pr (.int .i64) (.pr (.int .i64) (.int .i64))))) (.p (.n 64) (.p (.n 1) (.p (.n 1048576) (.p (.n 1) (.n 1048576))))))) (.nil)) (.cond (.h 2 1 (.mk (.im (.pr (.int .i64) (.pr (.int .i64) (.pr (.int .i64) (.pr (.int .i64) (.int .i64))))) (.p (.n 64) (.p (.n 1) (.p (.n 1048576) (.p (.n 1) (.n 1048576))))))) (.nil)) (.loop [.s 6 (.nat .i64) (.n 1048576),.g 3 90001 (.pr (.int .i64) (.pr (.int .i64) (.pr (.int .i64) (.pr (.int .i64) (.int .i64))))) (.p (.n 64) (.p (.n 1) (.p (.n 1048576) (.p (.n 1) (.n 1048576))))) 192] (fun((i,l):Nat×List (Int×Int×Int×Int×Int))=>l=badN m i∧i≤m.2.1.length) (fun((i,l):Nat×List (Int×Int×Int×Int×Int))=>m.2.1.length-i) (fun((i,l):Nat×List (Int×Int×Int×Int×Int))=> .cond (.cond (.h 8 3 (.mk (.im (.pr (.int .i64) (.pr (.int .i64) (.pr (.int .i64) (.pr (.int .i64) (.int .i64))))) (.p (.n 64) (.p (.n 1) (.p (.n 1048576) (.p (.n 1) (.n 1048576))))))) (.nil)) (.nil)) (.cond (.pre 999999 (.frz 90001 true [2]) (.nil)) (.loop [.s 7 (.nat .i64) (.n 1048576),.g 4 90002 (.pr (.int .i64) (.pr (.int .i64) (.pr (.int .i64) (.pr (.int .i64) (.int .i64))))) (.p (.n 64) (.p (.n 1) (.p (.n 1048576) (.p (.n 1) (.n 1048576))))) 192] (fun((j,k):Nat×List (Int×Int×Int×Int×Int))=>k=thnN m j∧j≤m.2.1.length) (fun((j,k):Nat×List (Int×Int×Int×Int×Int))=>m.2.1.length-j) (fun((j,k):Nat×List (Int×Int×Int×Int×Int))=> .cond (.cond (.h 15 3 (.mk (.im (.pr (.int .i64) (.pr (.int .i64) (.pr (.int .i64) (.pr (.int .i64) (.int .i64))))) (.p (.n 64) (.p (.n 1) (.p (.n 1048576) (.p (.n 1) (.n 1048576))))))) (.nil)) (.nil)) (.cond (.pre 999999 (.frz 90002 true [2]) (.nil)) (.loop [.s 8 (.nat .i64) (.n 1048576),.g 5 90003 (.pr (.int .i64) (.pr (.int .i64) (.pr (.int .i64) (.pr (.int .i64) (.int .i64))))) (.p (.n 64) (.p (.n 1) (.p (.n 1048576) (.p (.n 1) (.n 1048576))))) 192] (fun((q,o):Nat×List (Int×Int×Int×Int×Int))=>o=opnN (cR m) m q∧q≤m.2.1.length) (fun((q,o):Nat×List (Int×Int×Int×Int×Int))=>m.2.1.length-q) (fun((q,o):Nat×List (Int×Int×Int×Int×Int))=> .cond (.cond (.h 26 4 (.mk (.im (.pr (.int .i64) (.pr (.int .i64) (.pr (.int .i64) (.pr (.int .i64) (.int .i64))))) (.p (.n 64) (.p (.n 1) (.p (.n 1048576) (.p (.n 1) (.n 1048576))))))) (.cond (.h 26 4 (.mk (.im (.pr (.int .i64) (.pr (.int .i64) (.pr (.int .i64) (.pr (.int .i64) (.int .i64))))) (.p (.n 64) (.p (.n 1) (.p (.n 1048576) (.p (.n 1) (.n 1048576))))))) (.h 26 5 (.to (.gro (.pr (.int .i64) (.pr (.int .i64) (.pr (.int .i64) (.pr (.int .i64) (.int .i64))))) (.p (.n 64) (.p (.n 1) (.p (.n 1048576) (.p (.n 1) (.n 1048576)))))) 90010) (.cond (.h 26 4 (.mk (.im (.pr (.int .i64) (.pr (.int .i64) (.pr (.int .i64) (.pr (.int .i64) (.int .i64))))) (.p (.n 64) (.p (.n 1) (.p (.n 1048576) (.p (.n 1) (.n 1048576))))))) (.nil)) (.nil)))) (.cond (.h 26 4 (.mk (.im (.pr (.int .i64) (.pr (.int .i64) (.pr (.int .i64) (.pr (.int .i64) (.int .i64))))) (.p (.n 64) (.p (.n 1) (.p (.n 1048576) (.p (.n 1) (.n 1048576))))))) (.h 26 5 (.to (.gro (.pr (.int .i64) (.pr (.int .i64) (.pr (.int .i64) (.pr (.int .i64) (.int .i64))))) (.p (.n 64) (.p (.n 1) (.p (.n 1048576) (.p (.n 1) (.n 1048576)))))) 90010) (.nil))) (.nil)))) (.cond (.h 26 4 (.mk (.im (.pr (.int .i64) (.pr (.int .i64) (.pr (.int .i64) (.pr (.int .i64) (.int .i64))))) (.p (.n 64) (.p (.n 1) (.p (.n 1048576) (.p (.n 1) (.n 1048576))))))) (.cond (.h 26 4 (.mk (.im (.pr (.int .i64) (.pr (.int .i64) (.pr (.int .i64) (.pr (.int .i64) (.int .i64))))) (.p (.n 64) (.p (.n 1) (.p (.n 1048576) (.p (.n 1) (.n 1048576))))))) (.h 26 5 (.to (.gro (.pr (.int .i64) (.pr (.int .i64) (.pr (.int .i64) (.pr (.int .i64) (.int .i64))))) (.p (.n 64) (.p (.n 1) (.p (.n 1048576) (.p (.n 1) (.n 1048576)))))) 90010) (.nil))) (.nil))) (.cond (.h 26 4 (.mk (.im (.pr (.int .i64) (.pr (.int .i64) (.pr (.int .i64) (.pr (.int .i64) (.int .i64))))) (.p (.n 64) (.p (.n 1) (.p (.n 1048576) (.p (.n 1) (.n 1048576))))))) (.nil)) (.nil)))) (.pre 999999 (.frz 90003 true [2]) (.nil))))))))))),kcast (by kernel_rfl) (Sp (4096<m.2.1.length) (fun h1=>I (?_:Int.natAbs 2≤64) (I (?_:Int.natAbs (-1)≤1048576) (I (?_:Int.natAbs (-1)≤1048576) ((HW (.inl h1):[(2,-1,(-1),-1,(-1))]=mkR m))))) (fun h2=>Sp (m.2.2.length≠m.2.1.length) (fun h3=>I (?_:Int.natAbs 2≤64) (I (?_:Int.natAbs (-1)≤1048576) (I (?_:Int.natAbs (-1)≤1048576) ((HW (.inr h3):[(2,-1,(-1),-1,(-1))]=mkR m))))) (fun h4=>I (rfl:0=([]:List (Int×Int×Int×Int×Int)).length) (I (⟨rfl,Nat.zero_le _⟩:([]:List (Int×Int×Int×Int×Int))=badN m 0∧0≤m.2.1.length) (fun(i:Nat)(l:List (Int×Int×Int×Int×Int))(hb5:HB [.s 6 (.nat .i64) (.n 1048576),.g 3 90001 (.pr (.int .i64) (.pr (.int .i64) (.pr (.int .i64) (.pr (.int .i64) (.int .i64))))) (.p (.n 64) (.p (.n 1) (.p (.n 1048576) (.p (.n 1) (.n 1048576))))) 192] (i,l))(hI:l=badN m i∧i≤m.2.1.length)=>have hv40:=(show i≤1048576 from hb5.1);have hv41:=(show l.length≤192 from hb5.2.1);have hll:=(show l.length≤i from hI.1▸BS m i);Sp (i<m.2.1.length) (fun h6=>I (?_:i<m.2.1.length) (Sp ((!(decide (inR m.1.length (triA m i))))=true) (fun h7=>I (?_:Int.natAbs 1≤64) (I (?_:Int.natAbs (i:Int)≤1048576) (I (?_:Int.natAbs (-1)≤1048576) (I (?_:l.length=l.length) (I (show(i+1)≤1048576 by omega:Bnd (.nat .i64) (.n 1048576) (i+1)) (I (by(try simp only[List.length_append,List.length_cons,List.length_nil])<;>omega:l.length+[(1,-1,(i:Int),-1,(-1))].length=(l++[(1,-1,(i:Int),-1,(-1))]).length) (I (by(try simp only[List.length_append,List.length_cons,List.length_nil])<;>omega:l.length+[(1,-1,(i:Int),-1,(-1))].length≤192) (And.intro (⟨Sa hI.1 (md h7),by omega⟩:l++[(1,-1,(i:Int),-1,(-1))]=badN m (i+1)∧(i+1)≤m.2.1.length) (?_:m.2.1.length-(i+1)<m.2.1.length-i))))))))) (fun h8=>I (show(i+1)≤1048576 by omega:Bnd (.nat .i64) (.n 1048576) (i+1)) (I (?_:l.length=l.length) (And.intro (⟨S9 hI.1 (md' h8),by omega⟩:l=badN m (i+1)∧(i+1)≤m.2.1.length) (?_:m.2.1.length-(i+1)<m.2.1.length-i)))))) (fun h9=>Sp (0<l.length) (fun h10=>I (?_:l.length=l.length) ((Sd (not_or.2 ⟨h2,h4⟩) hI.1 h9 hI.2 h10:l=mkR m))) (fun h11=>I (rfl:0=([]:List (Int×Int×Int×Int×Int)).length) (I (⟨rfl,Nat.zero_le _⟩:([]:List (Int×Int×Int×Int×Int))=thnN m 0∧0≤m.2.1.length) (fun(j:Nat)(k:List (Int×Int×Int×Int×Int))(hb12:HB [.s 7 (.nat .i64) (.n 1048576),.g 4 90002 (.pr (.int .i64) (.pr (.int .i64) (.pr (.int .i64) (.pr (.int .i64) (.int .i64))))) (.p (.n 64) (.p (.n 1) (.p (.n 1048576) (.p (.n 1) (.n 1048576))))) 192] (j,k))(hJ:k=thnN m j∧j≤m.2.1.length)=>have hv38:=(show j≤1048576 from hb12.1);have hv39:=(show k.length≤192 from hb12.2.1);have hkl:=(show k.length≤j from hJ.1▸Cs m j);have hin:=Kv hI.1 h9 hI.2 h11;have hTj:=BK hp0 j;Sp (j<m.2.1.length) (fun h13=>I (hp0:Bnd tMsh bMsh m) (I (?_:j<m.2.1.length) (I (hin j (by omega):inR m.1.length (triA m j)) (Sp (decide (qz (qQ m.1 (triA m j))=(0,0,0))=true) (fun h14=>I (?_:Int.natAbs 9≤64) (I (?_:Int.natAbs (j:Int)≤1048576) (I (?_:Int.natAbs (-1)≤1048576) (I (?_:k.length=k.length) (I (show(j+1)≤1048576 by omega:Bnd (.nat .i64) (.n 1048576) (j+1)) (I (by(try simp only[List.length_append,List.length_cons,List.length_nil])<;>omega:k.length+[(9,-1,(j:Int),-1,(-1))].length=(k++[(9,-1,(j:Int),-1,(-1))]).length) (I (by(try simp only[List.length_append,List.length_cons,List.length_nil])<;>omega:k.length+[(9,-1,(j:Int),-1,(-1))].length≤192) (And.intro (⟨T5 hJ.1 (yd h14),by omega⟩:k++[(9,-1,(j:Int),-1,(-1))]=thnN m (j+1)∧(j+1)≤m.2.1.length) (?_:m.2.1.length-(j+1)<m.2.1.length-j))))))))) (fun h15=>I (show(j+1)≤1048576 by omega:Bnd (.nat .i64) (.n 1048576) (j+1)) (I (?_:k.length=k.length) (And.intro (⟨T4 hJ.1 (yd' h15),by omega⟩:k=thnN m (j+1)∧(j+1)≤m.2.1.length) (?_:m.2.1.length-(j+1)<m.2.1.length-j)))))))) (fun h16=>Sp (0<k.length) (fun h17=>I (?_:k.length=k.length) ((Se (not_or.2 ⟨h2,h4⟩) hI.1 h9 hI.2 h11 hJ.1 h16 hJ.2 h17:k=mkR m))) (fun h18=>I (rfl:0=([]:List (Int×Int×Int×Int×Int)).length) (I (⟨rfl,Nat.zero_le _⟩:([]:List (Int×Int×Int×Int×Int))=opnN (cR m) m 0∧0≤m.2.1.length) (fun(q:Nat)(o:List (Int×Int×Int×Int×Int))(hb19:HB [.s 8 (.nat .i64) (.n 1048576),.g 5 90003 (.pr (.int .i64) (.pr (.int .i64) (.pr (.int .i64) (.pr (.int .i64) (.int .i64))))) (.p (.n 64) (.p (.n 1) (.p (.n 1048576) (.p (.n 1) (.n 1048576))))) 192] (q,o))(hK:o=opnN (cR m) m q∧q≤m.2.1.length)=>have hv36:=(show q≤1048576 from hb19.1);have hv37:=(show o.length≤192 from hb19.2.1);have hol:=(show o.length≤3*q from hK.1▸Ck (cR m) m q);have hTq:=BK hp0 q;Sp (q<m.2.1.length) (fun h20=>I (?_:q<m.2.1.length) (I (?_:q<m.2.1.length) (I (hp0:Bnd tMsh bMsh m) (I (hp0:Bnd tMsh bMsh m) (Sp (timM m (((m.2.1.getD q (0,(0,0))).2).1) ((m.2.1.getD q (0,(0,0))).1)<timM m ((m.2.1.getD q (0,(0,0))).1) (((m.2.1.getD q (0,(0,0))).2).1)) (fun h21=>I (?_:Int.natAbs 30≤64) (I (?_:Int.natAbs (q:Int)≤1048576) (I (?_:Int.natAbs 0≤1048576) (I (?_:o.length=o.length) (I (?_:q<m.2.1.length) (I (?_:q<m.2.1.length) (I (hp0:Bnd tMsh bMsh m) (I (hp0:Bnd tMsh bMsh m) (Sp (timM m (((m.2.1.getD q (0,(0,0))).2).2) (((m.2.1.getD q (0,(0,0))).2).1)<timM m (((m.2.1.getD q (0,(0,0))).2).1) (((m.2.1.getD q (0,(0,0))).2).2)) (fun h22=>I (?_:Int.natAbs 30≤64) (I (?_:Int.natAbs (q:Int)≤1048576) (I (?_:Int.natAbs 1≤1048576) (I (by(try simp only[List.length_append,List.length_cons,List.length_nil])<;>omega:o.length+[(30,-1,(q:Int),-1,0)].length=(o++[(30,-1,(q:Int),-1,0)]).length) (I (?_:q<m.2.1.length) (I (?_:q<m.2.1.length) (I (hp0:Bnd tMsh bMsh m) (I (hp0:Bnd tMsh bMsh m) (Sp (timM m ((m.2.1.getD q (0,(0,0))).1) (((m.2.1.getD q (0,(0,0))).2).2)<timM m (((m.2.1.getD q (0,(0,0))).2).2) ((m.2.1.getD q (0,(0,0))).1)) (fun h23=>I (?_:Int.natAbs 30≤64) (I (?_:Int.natAbs (q:Int)≤1048576) (I (?_:Int.natAbs 2≤1048576) (I (by(try simp only[List.length_append,List.length_cons,List.length_nil])<;>omega:(o.length+[(30,-1,(q:Int),-1,0)].length)+[(30,-1,(q:Int),-1,1)].length=((o++[(30,-1,(q:Int),-1,0)])++[(30,-1,(q:Int),-1,1)]).length) (I (show(q+1)≤1048576 by omega:Bnd (.nat .i64) (.n 1048576) (q+1)) (I (by(try simp only[List.length_append,List.length_cons,List.length_nil])<;>omega:((o.length+[(30,-1,(q:Int),-1,0)].length)+[(30,-1,(q:Int),-1,1)].length)+[(30,-1,(q:Int),-1,2)].length=(((o++[(30,-1,(q:Int),-1,0)])++[(30,-1,(q:Int),-1,1)])++[(30,-1,(q:Int),-1,2)]).length) (I (by(try simp only[List.length_append,List.length_cons,List.length_nil])<;>omega:((o.length+[(30,-1,(q:Int),-1,0)].length)+[(30,-1,(q:Int),-1,1)].length)+[(30,-1,(q:Int),-1,2)].length≤192) (And.intro (⟨vp (c:=cR m) hK.1 (op_y (decide_eq_true h21)) (op_y (decide_eq_true h22)) (op_y (decide_eq_true h23)),by omega⟩:((o++[(30,-1,(q:Int),-1,0)])++[(30,-1,(q:Int),-1,1)])++[(30,-1,(q:Int),-1,2)]=opnN (cR m) m (q+1)∧(q+1)≤m.2.1.length) (?_:m.2.1.length-(q+1)<m.2.1.length-q))))))))) (fun h24=>I (show(q+1)≤1048576 by omega:Bnd (.nat .i64) (.n 1048576) (q+1)) (I (by(try simp only[List.length_append,List.length_cons,List.length_nil])<;>omega:(o.length+[(30,-1,(q:Int),-1,0)].length)+[(30,-1,(q:Int),-1,1)].length=((o++[(30,-1,(q:Int),-1,0)])++[(30,-1,(q:Int),-1,1)]).length) (I (by(try simp only[List.length_append,List.length_cons,List.length_nil])<;>omega:(o.length+[(30,-1,(q:Int),-1,0)].length)+[(30,-1,(q:Int),-1,1)].length≤192) (And.intro (⟨vp (c:=cR m) hK.1 (op_y (decide_eq_true h21)) (op_y (decide_eq_true h22)) (op_n (fun e=>h24 (of_decide_eq_true e))),by omega⟩:(o++[(30,-1,(q:Int),-1,0)])++[(30,-1,(q:Int),-1,1)]=opnN (cR m) m (q+1)∧(q+1)≤m.2.1.length) (?_:m.2.1.length-(q+1)<m.2.1.length-q)))))))))))))) (fun h25=>I (?_:q<m.2.1.length) (I (?_:q<m.2.1.length) (I (hp0:Bnd tMsh bMsh m) (I (hp0:Bnd tMsh bMsh m) (Sp (timM m ((m.2.1.getD q (0,(0,0))).1) (((m.2.1.getD q (0,(0,0))).2).2)<timM m (((m.2.1.getD q (0,(0,0))).2).2) ((m.2.1.getD q (0,(0,0))).1)) (fun h26=>I (?_:Int.natAbs 30≤64) (I (?_:Int.natAbs (q:Int)≤1048576) (I (?_:Int.natAbs 2≤1048576) (I (by(try simp only[List.length_append,List.length_cons,List.length_nil])<;>omega:o.length+[(30,-1,(q:Int),-1,0)].length=(o++[(30,-1,(q:Int),-1,0)]).length) (I (show(q+1)≤1048576 by omega:Bnd (.nat .i64) (.n 1048576) (q+1)) (I (by(try simp only[List.length_append,List.length_cons,List.length_nil])<;>omega:(o.length+[(30,-1,(q:Int),-1,0)].length)+[(30,-1,(q:Int),-1,2)].length=((o++[(30,-1,(q:Int),-1,0)])++[(30,-1,(q:Int),-1,2)]).length) (I (by(try simp only[List.length_append,List.length_cons,List.length_nil])<;>omega:(o.length+[(30,-1,(q:Int),-1,0)].length)+[(30,-1,(q:Int),-1,2)].length≤192) (And.intro (⟨vp (c:=cR m) hK.1 (op_y (decide_eq_true h21)) (op_n (fun e=>h25 (of_decide_eq_true e))) (op_y (decide_eq_true h26)),by omega⟩:(o++[(30,-1,(q:Int),-1,0)])++[(30,-1,(q:Int),-1,2)]=opnN (cR m) m (q+1)∧(q+1)≤m.2.1.length) (?_:m.2.1.length-(q+1)<m.2.1.length-q))))))))) (fun h27=>I (show(q+1)≤1048576 by omega:Bnd (.nat .i64) (.n 1048576) (q+1)) (I (by(try simp only[List.length_append,List.length_cons,List.length_nil])<;>omega:o.length+[(30,-1,(q:Int),-1,0)].length=(o++[(30,-1,(q:Int),-1,0)]).length) (I (by(try simp only[List.length_append,List.length_cons,List.length_nil])<;>omega:o.length+[(30,-1,(q:Int),-1,0)].length≤192) (And.intro (⟨vp (c:=cR m) hK.1 (op_y (decide_eq_true h21)) (op_n (fun e=>h25 (of_decide_eq_true e))) (op_n (fun e=>h27 (of_decide_eq_true e))),by omega⟩:o++[(30,-1,(q:Int),-1,0)]=opnN (cR m) m (q+1)∧(q+1)≤m.2.1.length) (?_:m.2.1.length-(q+1)<m.2.1.length-q))))))))))))))))))) (fun h28=>I (?_:q<m.2.1.length) (I (?_:q<m.2.1.length) (I (hp0:Bnd tMsh bMsh m) (I (hp0:Bnd tMsh bMsh m) (Sp (timM m (((m.2.1.getD q (0,(0,0))).2).2) (((m.2.1.getD q (0,(0,0))).2).1)<timM m (((m.2.1.getD q (0,(0,0))).2).1) (((m.2.1.getD q (0,(0,0))).2).2)) (fun h29=>I (?_:Int.natAbs 30≤64) (I (?_:Int.natAbs (q:Int)≤1048576) (I (?_:Int.natAbs 1≤1048576) (I (?_:o.length=o.length) (I (?_:q<m.2.1.length) (I (?_:q<m.2.1.length) (I (hp0:Bnd tMsh bMsh m) (I (hp0:Bnd tMsh bMsh m) (Sp (timM m ((m.2.1.getD q (0,(0,0))).1) (((m.2.1.getD q (0,(0,0))).2).2)<timM m (((m.2.1.getD q (0,(0,0))).2).2) ((m.2.1.getD q (0,(0,0))).1)) (fun h30=>I (?_:Int.natAbs 30≤64) (I (?_:Int.natAbs (q:Int)≤1048576) (I (?_:Int.natAbs 2≤1048576) (I (by(try simp only[List.length_append,List.length_cons,List.length_nil])<;>omega:o.length+[(30,-1,(q:Int),-1,1)].length=(o++[(30,-1,(q:Int),-1,1)]).length) (I (show(q+1)≤1048576 by omega:Bnd (.nat .i64) (.n 1048576) (q+1)) (I (by(try simp only[List.length_append,List.length_cons,List.length_nil])<;>omega:(o.length+[(30,-1,(q:Int),-1,1)].length)+[(30,-1,(q:Int),-1,2)].length=((o++[(30,-1,(q:Int),-1,1)])++[(30,-1,(q:Int),-1,2)]).length) (I (by(try simp only[List.length_append,List.length_cons,List.length_nil])<;>omega:(o.length+[(30,-1,(q:Int),-1,1)].length)+[(30,-1,(q:Int),-1,2)].length≤192) (And.intro (⟨vp (c:=cR m) hK.1 (op_n (fun e=>h28 (of_decide_eq_true e))) (op_y (decide_eq_true h29)) (op_y (decide_eq_true h30)),by omega⟩:(o++[(30,-1,(q:Int),-1,1)])++[(30,-1,(q:Int),-1,2)]=opnN (cR m) m (q+1)∧(q+1)≤m.2.1.length) (?_:m.2.1.length-(q+1)<m.2.1.length-q))))))))) (fun h31=>I (show(q+1)≤1048576 by omega:Bnd (.nat .i64) (.n 1048576) (q+1)) (I (by(try simp only[List.length_append,List.length_cons,List.length_nil])<;>omega:o.length+[(30,-1,(q:Int),-1,1)].length=(o++[(30,-1,(q:Int),-1,1)]).length) (I (by(try simp only[List.length_append,List.length_cons,List.length_nil])<;>omega:o.length+[(30,-1,(q:Int),-1,1)].length≤192) (And.intro (⟨vp (c:=cR m) hK.1 (op_n (fun e=>h28 (of_decide_eq_true e))) (op_y (decide_eq_true h29)) (op_n (fun e=>h31 (of_decide_eq_true e))),by omega⟩:o++[(30,-1,(q:Int),-1,1)]=opnN (cR m) m (q+1)∧(q+1)≤m.2.1.length) (?_:m.2.1.length-(q+1)<m.2.1.length-q)))))))))))))) (fun h32=>I (?_:q<m.2.1.length) (I (?_:q<m.2.1.length) (I (hp0:Bnd tMsh bMsh m) (I (hp0:Bnd tMsh bMsh m) (Sp (timM m ((m.2.1.getD q (0,(0,0))).1) (((m.2.1.getD q (0,(0,0))).2).2)<timM m (((m.2.1.getD q (0,(0,0))).2).2) ((m.2.1.getD q (0,(0,0))).1)) (fun h33=>I (?_:Int.natAbs 30≤64) (I (?_:Int.natAbs (q:Int)≤1048576) (I (?_:Int.natAbs 2≤1048576) (I (?_:o.length=o.length) (I (show(q+1)≤1048576 by omega:Bnd (.nat .i64) (.n 1048576) (q+1)) (I (by(try simp only[List.length_append,List.length_cons,List.length_nil])<;>omega:o.length+[(30,-1,(q:Int),-1,2)].length=(o++[(30,-1,(q:Int),-1,2)]).length) (I (by(try simp only[List.length_append,List.length_cons,List.length_nil])<;>omega:o.length+[(30,-1,(q:Int),-1,2)].length≤192) (And.intro (⟨vp (c:=cR m) hK.1 (op_n (fun e=>h28 (of_decide_eq_true e))) (op_n (fun e=>h32 (of_decide_eq_true e))) (op_y (decide_eq_true h33)),by omega⟩:o++[(30,-1,(q:Int),-1,2)]=opnN (cR m) m (q+1)∧(q+1)≤m.2.1.length) (?_:m.2.1.length-(q+1)<m.2.1.length-q))))))))) (fun h34=>I (show(q+1)≤1048576 by omega:Bnd (.nat .i64) (.n 1048576) (q+1)) (I (?_:o.length=o.length) (And.intro (⟨vp (c:=cR m) hK.1 (op_n (fun e=>h28 (of_decide_eq_true e))) (op_n (fun e=>h32 (of_decide_eq_true e))) (op_n (fun e=>h34 (of_decide_eq_true e))),by omega⟩:o=opnN (cR m) m (q+1)∧(q+1)≤m.2.1.length) (?_:m.2.1.length-(q+1)<m.2.1.length-q))))))))))))))))))) (fun h35=>I (?_:o.length=o.length) ((Sf (not_or.2 ⟨h2,h4⟩) hI.1 h9 hI.2 h11 hJ.1 h16 hJ.2 h18 hK.1 h35 hK.2:o=mkR m))))))))))))))))⟩<;>omega)
abbrev R6:Ctr Tryz.prog:=FI.c R8
section
theorem CY{x:V3}{l:List V3}:decide (0≤fidx (fun j=>decide (x=l.getD j (0,(0,0)))) 0 l.length)=true↔x∈l:=by
 rw[decide_eq_true_eq,Gn]
 constructor
 ·rintro⟨j,_,h2,h3⟩
  have h3:=of_decide_eq_true h3
  rw[h3,List.getD_eq_getElem?_getD,List.getElem?_eq_getElem (by omega)]
  exact List.getElem_mem (by omega)
 ·intro h
  obtain⟨j,hj⟩:=List.getElem?_of_mem h
  refine⟨j,Nat.zero_le _,by have:=(List.getElem?_eq_some_iff.1 hj).1;omega,decide_eq_true ?_⟩
  rw[List.getD_eq_getElem?_getD,hj];rfl
theorem Yc{l:List V3}{p:V3→Bool}:decide (0≤fidx (fun j=>p (l.getD j (0,(0,0)))) 0 l.length)=true↔ ∃x∈l,p x=true:=by
 rw[decide_eq_true_eq,Gn]
 constructor
 ·rintro⟨j,_,h2,h3⟩
  refine⟨_,?_,h3⟩
  rw[List.getD_eq_getElem?_getD,List.getElem?_eq_getElem (by omega)]
  exact List.getElem_mem (by omega)
 ·rintro⟨x,h,hp⟩
  obtain⟨j,hj⟩:=List.getElem?_of_mem h
  refine⟨j,Nat.zero_le _,by have:=(List.getElem?_eq_some_iff.1 hj).1;omega,?_⟩
  rw[List.getD_eq_getElem?_getD,hj];exact hp
section
variable {x:V3} {b:T3}
theorem zE(h:decide (0≤fidx (fun j=>decide (x=[b.1,b.2.1,b.2.2].getD j (0,(0,0)))) 0 [b.1,b.2.1,b.2.2].length)=true):shA x b=[x]:=by
 have:=CY.1 h
 simp only[List.mem_cons,List.not_mem_nil,or_false]at this
 exact if_pos this
theorem zD(h: ¬decide (0≤fidx (fun j=>decide (x=[b.1,b.2.1,b.2.2].getD j (0,(0,0)))) 0 [b.1,b.2.1,b.2.2].length)=true):shA x b=[]:=by
 refine if_neg fun g=>h (CY.2 ?_)
 simp only[List.mem_cons,List.not_mem_nil,or_false]
 exact g
end
theorem AY{a b:T3}{l1 l2 l3:List V3}(h1:shA a.1 b=l1)(h2:shA a.2.1 b=l2)(h3:shA a.2.2 b=l3):l1++(l2++l3)=shP a b:=by rw[←h1,←h2,←h3];rfl
section
variable {l:List V3} {p:V3} {i:Nat}
theorem sp_1(h:l.length=3):true=decide (spP l p):=(decide_eq_true (.inl h)).symm
theorem sp_2(h:decide (0≤fidx (fun j=>decide (p=l.getD j (0,(0,0)))) 0 l.length)=true):true=decide (spP l p):=(decide_eq_true (.inr (.inl (CY.1 h)))).symm
theorem sp_3(h1: ¬l.length=3)(h2: ¬decide (0≤fidx (fun j=>decide (p=l.getD j (0,(0,0)))) 0 l.length)=true)(h3:l.length=2):decide (insQ (l.getD 0 (0,(0,0))) (l.getD 1 (0,(0,0))) p)=decide (spP l p):=
 decide_eq_decide.2 ⟨fun h=> .inr (.inr ⟨h3,h⟩),fun h=>h.elim (fun e=>absurd e h1) fun h=>h.elim (fun e=>absurd (CY.2 e) h2) fun h=>h.2⟩
theorem sp_4(h1: ¬l.length=3)(h2: ¬decide (0≤fidx (fun j=>decide (p=l.getD j (0,(0,0)))) 0 l.length)=true)(h3: ¬l.length=2):false=decide (spP l p):=
 (decide_eq_false fun h=>h.elim (fun e=>absurd e h1) fun h=>h.elim (fun e=>absurd (CY.2 e) h2) fun h=>absurd h.1 h3).symm
def NoQ(l:List V3)(p:V3)(i:Nat):Prop:= ∀j,j<i→ ¬l.getD j (0,(0,0))=p
theorem q1T(l:List V3)(p:V3):NoQ l p 0:=fun j h=>absurd h (Nat.not_lt_zero _)
theorem q1U(h:NoQ l p i)(hn: ¬decide (l.getD i (0,(0,0))=p)=true):NoQ l p (i+1):=fun j hj e=>by
 rcases Nat.lt_succ_iff_lt_or_eq.1 hj with h1|h1
 ·exact h j h1 e
 ·subst h1;exact hn (decide_eq_true e)
theorem SF(h:NoQ l p i)(hi: ¬i<l.length):p∉l:=fun hm=>by
 obtain⟨j,hj⟩:=List.getElem?_of_mem hm
 have:=(List.getElem?_eq_some_iff.1 hj).1
 refine h j (by omega) ?_
 rw[List.getD_eq_getElem?_getD,hj];rfl
theorem sr_1(hi:i<l.length)(h:decide (l.getD i (0,(0,0))=p)=true):true=decide (spR l p):=by
 refine(decide_eq_true (.inl ?_)).symm
 rw[←of_decide_eq_true h,List.getD_eq_getElem?_getD,List.getElem?_eq_getElem hi]
 exact List.getElem_mem hi
theorem sr_2(h:NoQ l p i)(hi: ¬i<l.length)(h3:l.length=2):decide (insQ (l.getD 0 (0,(0,0))) (l.getD 1 (0,(0,0))) p)=decide (spR l p):=
 decide_eq_decide.2 ⟨fun h=> .inr ⟨h3,h⟩,fun g=>g.elim (fun e=>absurd e (SF h hi)) fun h=>h.2⟩
theorem sr_3(h:NoQ l p i)(hi: ¬i<l.length)(h3: ¬l.length=2):false=decide (spR l p):=
 (decide_eq_false fun g=>g.elim (fun e=>absurd e (SF h hi)) fun h=>absurd h.1 h3).symm
end
section
variable {a b:T3} {i:Nat}
theorem cr_1(h:decide (aprt a b)=true):false=decide (crX a b):=(decide_eq_false fun g=>g.1 (of_decide_eq_true h)).symm
theorem cr_2(h: ¬decide (aprt a b)=true):decide (0≤fidx (fun j=>!decide (spP (shP a b) ((qv a b).getD j (0,(0,0))))) 0 (qv a b).length)=decide (crX a b):=by
 rw[Bool.eq_iff_iff,@Yc (qv a b) (fun x=>!decide (spP (shP a b) x)),decide_eq_true_eq]
 constructor
 ·rintro⟨x,hx,hp⟩;exact⟨fun e=>h (decide_eq_true e),x,hx,by simpa using hp⟩
 ·rintro⟨_,x,hx,hp⟩;exact⟨x,hx,by simpa using hp⟩
theorem ST{x:V3}{u:List V3}{j:Nat}{r:List V3}(h:u=r++shB x b j):(decide (x=getT b j)=true→u++[x]=r++shB x b (j+1))∧(¬decide (x=getT b j)=true→u=r++shB x b (j+1)):=by
 rw[shB];unfold one1
 refine⟨fun e=>?_,fun e=>?_⟩
 ·rw[if_pos (of_decide_eq_true e),h,List.append_assoc]
 ·rw[if_neg (fun g=>e (decide_eq_true g)),h,List.append_nil]
theorem GN(x:V3)(b:T3): ∀n,(shB x b n).length≤n
 |0=>Nat.le_refl _
 |n+1=>by
  have:=GN x b n
  have h:(one1 x (getT b n)).length≤1:=by unfold one1;split<;>simp
  rw[shB,List.length_append];omega
theorem GO(a b:T3): ∀n,(shR a b n).length≤3*n
 |0=>Nat.le_refl _
 |n+1=>by
  have:=GO a b n
  have h:=GN (getT a n) b 3
  rw[shR,List.length_append];omega
theorem Zu{m:Nat}{x y:V3}(h:Bnd tV3 (bV3 m) x): ∀z∈one1 x y,Bnd tV3 (bV3 m) z:=fun z hz=>by
 unfold one1 at hz;split at hz
 ·rw[List.mem_singleton.1 hz];exact h
 ·cases hz
theorem SS{m:Nat}{x:V3}(h:Bnd tV3 (bV3 m) x): ∀n,∀z∈shB x b n,Bnd tV3 (bV3 m) z
 |0=>fun z hz=>(by cases hz)
 |n+1=>fun z hz=>by
  rw[shB]at hz
  exact(List.mem_append.1 hz).elim (SS h n z) (Zu h z)
theorem SU{m:Nat}(h:Bnd tT3 (bT3 m) a): ∀n,∀z∈shR a b n,Bnd tV3 (bV3 m) z
 |0=>fun z hz=>(by cases hz)
 |n+1=>fun z hz=>by
  rw[shR]at hz
  exact(List.mem_append.1 hz).elim (SU h n z) (SS (vM (l:=[a.1,a.2.1,a.2.2]) (fun y hy=>MF ⟨h.1,h.2.1,h.2.2⟩ y hy) n) 3 z)
def AllS(a b:T3)(i:Nat):Prop:= ∀j,j<i→spR (shR a b 3) ((qv a b).getD j (0,(0,0)))
theorem XF(a b:T3):AllS a b 0:=fun j h=>absurd h (Nat.not_lt_zero _)
theorem XG(h:AllS a b i)(hn: ¬(!decide (spR (shR a b 3) ((qv a b).getD i (0,(0,0)))))=true):AllS a b (i+1):=fun j hj=>by
 rcases Nat.lt_succ_iff_lt_or_eq.1 hj with h1|h1
 ·exact h j h1
 ·subst h1;simpa using hn
theorem me_1(h:3≤(shR a b 3).length):false=decide (meX a b):=(decide_eq_false fun g=>g.1 h).symm
theorem me_2(h: ¬3≤(shR a b 3).length)(hi:i<(qv a b).length)(hn:(!decide (spR (shR a b 3) ((qv a b).getD i (0,(0,0)))))=true):true=decide (meX a b):=by
 refine(decide_eq_true ⟨h,(qv a b).getD i (0,(0,0)),?_,by simpa using hn⟩).symm
 rw[List.getD_eq_getElem?_getD,List.getElem?_eq_getElem hi]
 exact List.getElem_mem hi
theorem me_3(hs:AllS a b i)(hi: ¬i<(qv a b).length):false=decide (meX a b):=by
 refine(decide_eq_false ?_).symm
 rintro⟨_,p,hp,hn⟩
 obtain⟨j,hj⟩:=List.getElem?_of_mem hp
 have:=(List.getElem?_eq_some_iff.1 hj).1
 have h:=hs j (by omega)
 rw[List.getD_eq_getElem?_getD,hj]at h
 exact hn h
end
section
variable {m:Msh} {i j:Nat}
def xP(m:Msh)(i j:Nat):Bool:=decide (crX (qQ m.1 (triA m i)) (qQ m.1 (triA m j)))
def xR(m:Msh)(i j:Nat):Bool:=decide (meX (qQ m.1 (triA m i)) (qQ m.1 (triA m j)))
theorem q1I(h: ¬0<(mkP m).length):z0 m:=(CK w5).2 fun g=>h g.1
theorem q1J(h: ¬((mkP m).getD 0 (0,(0,(0,(0,0))))).1≠30):z0 m:=(CK w5).2 fun g=>h g.2
theorem q1C(h: ¬vn (mkR m)≠0):z0 m:=(DP w5).2 fun g=>h g.1
theorem q1D(h: ¬vn (mkR m)≠30):z0 m:=(DP w5).2 fun g=>h g.2
theorem SB(h:z0 m):metP m=srI (xP m) m.2.1.length 0 m.2.1.length:=if_neg ((CK w5).1 h)
theorem SC(h:z0 m):metR m=srI (xR m) m.2.1.length 0 m.2.1.length:=if_neg ((DP w5).1 h)
theorem tr3{x y:Nat×Nat×Bool}(h:x=y):x.1=y.1∧x.2.1=y.2.1∧x.2.2=y.2.2:=by rw[h];exact⟨rfl,rfl,rfl⟩
theorem Md(h:0<(mkP m).length)(h2:((mkP m).getD 0 (0,(0,(0,(0,0))))).1≠30):0=(metP m).1∧0=(metP m).2.1∧false=(metP m).2.2:=tr3 (x:=(0,0,false)) (if_pos ⟨h,h2⟩:metP m=_).symm
theorem DU(h:z0 m)(hI:srI (xP m) m.2.1.length i (m.2.1.length-i)=srI (xP m) m.2.1.length 0 m.2.1.length)(hi:i<m.2.1.length)(hJ:srJ (xP m) i j (m.2.1.length-j)=srJ (xP m) i (i+1) (m.2.1.length-(i+1)))(hj:j<m.2.1.length)(hx:xP m i j=true):
  i=(metP m).1∧j=(metP m).2.1∧true=(metP m).2.2:=tr3 (x:=(i,j,true)) ((T0 hI hi hJ hj hx).trans (SB h).symm)
theorem DV(h:z0 m)(hI:srI (xP m) m.2.1.length i (m.2.1.length-i)=srI (xP m) m.2.1.length 0 m.2.1.length)(hi: ¬i<m.2.1.length):0=(metP m).1∧0=(metP m).2.1∧false=(metP m).2.2:=tr3 (x:=(0,0,false)) ((SZ hI hi).trans (SB h).symm)
theorem Mc(h:vn (mkR m)≠0)(h2:vn (mkR m)≠30):0=(metR m).1∧0=(metR m).2.1∧false=(metR m).2.2:=tr3 (x:=(0,0,false)) (if_pos ⟨h,h2⟩:metR m=_).symm
theorem DS(h:z0 m)(hI:srI (xR m) m.2.1.length i (m.2.1.length-i)=srI (xR m) m.2.1.length 0 m.2.1.length)(hi:i<m.2.1.length)(hJ:srJ (xR m) i j (m.2.1.length-j)=srJ (xR m) i (i+1) (m.2.1.length-(i+1)))(hj:j<m.2.1.length)(hx:xR m i j=true):
  i=(metR m).1∧j=(metR m).2.1∧true=(metR m).2.2:=tr3 (x:=(i,j,true)) ((T0 hI hi hJ hj hx).trans (SC h).symm)
theorem DT(h:z0 m)(hI:srI (xR m) m.2.1.length i (m.2.1.length-i)=srI (xR m) m.2.1.length 0 m.2.1.length)(hi: ¬i<m.2.1.length):0=(metR m).1∧0=(metR m).2.1∧false=(metR m).2.2:=tr3 (x:=(0,0,false)) ((SZ hI hi).trans (SC h).symm)
end
end
def gro1(st:WSt)(K:Nat)(t:Ty)(b:Bd):Option (List Prop×List t.den):=
 match look st.rL K with
 |none=>match look st.L K with
  |some (.gro t' b' l)=>if h:(Ty.sl t').beq (.sl t)=true then some (bif b'.le b then[]else[∀x∈j0 (t:= .sl t') (t':= .sl t) h l,Bnd t b x],j0 (t:= .sl t') (t':= .sl t) h l)else none
  |_=>none
 |_=>none
theorem Hj{st:WSt}(hk:st.Ok){K:Nat}{t:Ty}{b:Bd}{vc:List Prop}{l:List t.den}(e:gro1 st K t b=some (vc,l))(hvc: ∀p∈vc,p):look st.rL K=none∧(∃b',qe st K=some (.gro t b' l))∧ ∀x∈l,Bnd t b x:=by
 unfold gro1 at e
 split at e
 ·rename_i hr
  split at e
  ·rename_i t' b' l' h2
   split at e
   ·rename_i hb
    have:=Ty.beq_eq hb
    cases this
    simp only[Option.some.injEq,Prod.mk.injEq]at e;obtain⟨rfl,rfl⟩:=e
    have hL:qe st K=some (.gro t b' l'):=by unfold qe;rw[h2]
    refine⟨hr,⟨b',hL⟩,?_⟩
    cases hle:b'.le b with
    |true=>exact fun x hx=>Bnd.mono hle ((hk.l K _ hL) x hx)
    |false=>rw[hle]at hvc;exact hvc (∀x∈l',Bnd t b x) List.mem_cons_self
   ·cases e
  ·cases e
 ·cases e
def KR(kb K1 K2:Nat)(pre mid post:List WA)(t1:Ty)(b1:Bd)(t2:Ty)(b2:Bd)(nb:Nat)(st:WSt):Option (List Prop×(List t1.den×List t2.den)):=
 match look st.rL kb with
 |none=>match look st.L kb with
  |some (.rig c)=>match c.drop pre.length with
   | .gs k n w _::r=>match r.drop mid.length with
    | .gs k2 n2 w2 _::post'=>match gro1 st K1 t1 b1,gro1 st K2 t2 b2 with
     |some (v1,l1),some (v2,l2)=>bif Nat.beq k K1&&Nat.beq w t1.w&&(Nat.beq k2 K2&&Nat.beq w2 t2.w)then
       some ((c.take pre.length=pre)::(r.take mid.length=mid)::(post'=post)::(n=l1.length)::(n2=l2.length)::(n≤nb)::(n2≤nb)::(v1++v2),(l1,l2))else none
     |_,_=>none
    |_=>none
   |_=>none
  |_=>none
 |_=>none
def Su(kb K1 K2:Nat)(pre mid post:List WA)(t1:Ty)(b1:Bd)(t2:Ty)(b2:Bd)(nb:Nat):HavX where
 t:= .pr (.sl t1) (.sl t2)
 bnd x:=((List.length (show List t1.den from x.1)≤nb∧ ∀y∈(show List t1.den from x.1),Bnd t1 b1 y)∧(List.length (show List t2.den from x.2)≤nb∧ ∀y∈(show List t2.den from x.2),Bnd t2 b2 y))∧WAs.ok pre∧WAs.ok mid∧WAs.ok post
 ss:=[]
 bs:=[kb,K1,K2]
 gb:=[K1,K2]
 m _:=[]
 L x:=[(kb,.rig (pre++ .gs K1 (List.length (show List t1.den from x.1)) t1.w nb::(mid++ .gs K2 (List.length (show List t2.den from x.2)) t2.w nb::post))),(K1,.gro t1 b1 x.1),(K2,.gro t2 b2 x.2)]
 val st:=KR kb K1 K2 pre mid post t1 b1 t2 b2 nb st
 ren st:=match renB kb pre.length K1 t1 b1 st with
  |some st'=>renB kb (pre.length+1+mid.length) K2 t2 b2 st'
  |none=>none
 hm:=fun _ p hp=>by simp at hp
 hL:=by
  intro x hx p hp
  simp only[List.mem_cons,List.not_mem_nil,or_false]at hp
  obtain⟨⟨h1,h2⟩,h3,h4,h5⟩:=hx
  rcases hp with rfl|rfl|rfl
  ·exact⟨by simp,WAs.ok_app.2 ⟨h3,WAs.ok_cons.2 ⟨h1.1,WAs.ok_app.2 ⟨h4,WAs.ok_cons.2 ⟨h2.1,h5⟩⟩⟩⟩⟩
  ·exact⟨by simp,h1.2⟩
  ·exact⟨by simp,h2.2⟩
 hval:=by
  intro st vc x hk e hvc
  unfold KR at e
  split at e
  ·rename_i hr0
   split at e
   ·rename_i c h1
    split at e
    ·rename_i k n w nb' r hd
     split at e
     ·rename_i k2 n2 w2 nb2' post' hd2
      split at e
      ·rename_i v1 l1 v2 l2 g1 g2
       cases hc:Nat.beq k K1&&Nat.beq w t1.w&&(Nat.beq k2 K2&&Nat.beq w2 t2.w)with
       |false=>rw[hc]at e;cases e
       |true=>
        rw[hc]at e;simp only[cond_true,Option.some.injEq,Prod.mk.injEq]at e;obtain⟨rfl,rfl⟩:=e
        simp only[Bool.and_eq_true]at hc
        have q1:=Nat.eq_of_beq_eq_true hc.1.1
        have q2:=Nat.eq_of_beq_eq_true hc.1.2
        have q3:=Nat.eq_of_beq_eq_true hc.2.1
        have q4:=Nat.eq_of_beq_eq_true hc.2.2
        subst q1 q2 q3 q4
        have e1:c.take pre.length=pre:=hvc _ List.mem_cons_self
        have e2:r.take mid.length=mid:=hvc _ (by simp)
        have e3:post'=post:=hvc _ (by simp)
        have e4:n=l1.length:=hvc _ (by simp)
        have e5:n2=l2.length:=hvc _ (by simp)
        have e6:n≤nb:=hvc (n≤nb) (by simp)
        have e7:n2≤nb:=hvc (n2≤nb) (by simp)
        obtain⟨p1,p2⟩:=AllP.app (fun p hp=>hvc p (by simp only[List.mem_cons];exact .inr (.inr (.inr (.inr (.inr (.inr (.inr hp))))))))
        obtain⟨r1,⟨b1',L1⟩,B1⟩:=Hj hk g1 p1
        obtain⟨r2,⟨b2',L2⟩,B2⟩:=Hj hk g2 p2
        subst e3
        have hcc:c=pre++ .gs k n t1.w nb'::(mid++ .gs k2 n2 t2.w nb2'::post'):=by
         have h9:=List.take_append_drop pre.length c
         have h8:=List.take_append_drop mid.length r
         rw[e1,hd,←h8,e2,hd2]at h9;exact h9.symm
        have hL1:qe st kb=some (.rig c):=by unfold qe;rw[h1]
        have hok:WAs.ok c:=hk.l kb (.rig c) hL1
        rw[hcc]at hok
        obtain⟨o1,o2⟩:=WAs.ok_app.1 hok
        obtain⟨o3,o4⟩:=WAs.ok_app.1 (WAs.ok_cons.1 o2).2
        refine⟨⟨⟨⟨by show l1.length≤nb;omega,B1⟩,⟨by show l2.length≤nb;omega,B2⟩⟩,o1,o3,(WAs.ok_cons.1 o4).2⟩,fun p hp=>by simp at hp,fun p hp=>?_⟩
        simp only[List.mem_cons,List.not_mem_nil,or_false]at hp
        rcases hp with rfl|rfl|rfl
        ·refine⟨hr0,_,hL1,?_⟩
         show BImp kb (.rigid (WAs.exp c)) (.rigid (WAs.exp (pre++ .gs k l1.length t1.w nb::(mid++ .gs k2 l2.length t2.w nb::post'))))
         rw[hcc,vW _ _ _ (.gs k n) rfl,vW _ _ _ (.gs k2 n2) rfl,vW _ _ _ (.gs k l1.length) rfl,vW _ _ _ (.gs k2 l2.length) rfl,e4,e5]
         exact fun _ _ _ h=>h
        ·exact⟨r1,_,L1,fun _ _ _ h=>h⟩
        ·exact⟨r2,_,L2,fun _ _ _ h=>h⟩
      ·cases e
     ·cases e
    ·cases e
   ·cases e
  ·cases e
 hren:=by
  intro n Ks st st' hk h
  split at h
  ·rename_i st1 h1
   obtain⟨a1,a2,a3,a4⟩:=Dd (n:=n) (Ks:=Ks) hk h1
   obtain⟨b1,b2,b3,b4⟩:=Dd (n:=n) (Ks:=Ks) a2 h
   exact⟨a1.trans b1,b2,b3.trans a3,b4.trans a4⟩
  ·cases h
section
section
variable {P:Program}
theorem Ha{H:Heap}: ∀{a b:List CAtom}{u v:List Value},CSats H a u→CSats H b v→CSats H (a++b) (u++v)
 |[],_,[],_,_,h=>h
 |[],_,_::_,_,h,_=>h.elim
 |_::_,_,[],_,h,_=>h.elim
 |_::_,_,_::_,_,h,k=>⟨h.1,Ha h.2 k⟩
theorem Q2{t ty:TypeId}{x z z':Operand}{cells cells':List CAtom}{n es:Nat}{r:Nat}{k2:IntKind}{i2:Int}(hs:qW P t=some es)(hc:cells.length=n*es)(hr:i2=(r:Int))(hrn:r≤n)(hcut:cells.take (r*es)=cells'):
  OpOk P (.slice t x none (some z) (some z')) ty [(x,.c (.one (.abs (flP cells n)))),(z,vInt k2 i2),(z',vInt k2 i2)] [] (.c (.one (.abs (fcP cells' r)))) []:=
 qo fun a w H β hins _ _=>by
  obtain⟨e,ie,h1,h2,rfl⟩:=qU hs
  have hx:(flP cells n).p H (a.eval x):=hins _ List.mem_cons_self
  obtain⟨p,c,hxe,hnc,hh⟩:=id hx
  have hz:=(hins (z,vInt k2 i2) (by simp)).1
  have hz':=(hins (z',vInt k2 i2) (by simp)).1
  simp only at hz hz'
  have hsl:=Cn (P:=P) h1 h2 p n c none k2 i2 (l:=0) (r:=r) rfl hr (Nat.zero_le _) (by omega) w
  simp only[Option.map_none,Option.map_some]at hsl
  refine⟨.slice (if r=0 then p else p.map (·.add (0*ie.size))) r r,?_,fun _ _ _ _=>?_⟩
  ·refine⟨_,rfl,?_⟩
   subst hcut
   by_cases e0:r=0
   ·left;rw[e0];simp
   ·rcases hh with hh|⟨b,off,arr,rfl,h3,h4⟩
    ·left;rw[hh];simp
    ·refine .inr ⟨b,off,arr,by rw[if_neg e0];simp[qY],h3,?_⟩
     have h5:=h4.take (r*ie.size)
     have h6:r*ie.size≤n*ie.size:=Nat.mul_le_mul_right _ hrn
     rw[List.take_take]at h5
     rw[List.length_take,Nat.min_eq_left (by omega)]
     rw[Nat.min_eq_left (by omega)]at h5
     exact h5
  ·simp only[execOp,hxe,hz,hz',Option.map_none,Option.map_some,Sem.run_bind,hsl,Result.andThen_ok,Sem.run_pure,Nat.sub_zero]
theorem q1s{ts tx ty ex:TypeId}{x y:Operand}{n m s bytes:Nat}{z:Array Value}{cs cells:List CAtom}
  (hb:elB P ts=some (s,bytes))(hz:elZ P ts=some z)(htx:P.underlying tx=some (.slice ex))(hby:0<bytes)
  (hc:cells.length=m*s)(hcs:cs.length=n*s)(hbig:(2*(n+m)+1000)*bytes≤281474976710656):
  OpOk P (.call {callee:= .builtin .append,args:= #[x,y],argTypes:= #[ts,tx]}) ty [(x,.c (.one (.abs (fcP cs n)))),(y,.c (.one (.abs (flP cells m))))] [] (.c (.one (.abs (flP (cs++cells) (n+m))))) []:=by
 intro dst pos after guard a w H β K Q hins hkin _ hon hK
 obtain⟨e,i,h1,h2,rfl,rfl⟩:=wi hb
 obtain⟨e',i',zv,h1',h2',hz',rfl⟩:=wj hz
 rw[h1]at h1';cases h1'
 rw[h2]at h2';cases h2'
 have hx:(fcP cs n).p H (a.eval x):=hins (x,.c (.one (.abs (fcP cs n)))) List.mem_cons_self
 have hy:(flP cells m).p H (a.eval y):=hins (y,.c (.one (.abs (flP cells m)))) (by simp)
 obtain⟨arrx,hfx,hsx,hszx⟩:=ws (P:=P) (s:=i.size) hon hy hc
 obtain⟨arro,hfo,hso,hszo⟩:=ws (P:=P) (s:=i.size) hon (Y8 _ _ hx) hcs
 obtain⟨base,hxe,hh⟩:=id hx
 have hlenx:(Builtin.lenOf (a.eval y)).run P w= .ok m w:=by
  obtain⟨p,c,hp,_⟩:=hy
  rw[hp];simp[Builtin.lenOf]
 have hargs:(#[x,y]:Array Operand).map a.eval= #[a.eval x,a.eval y]:=by simp
 have hexec: ∀r,(Builtin.append_ #[ts,tx] ty #[a.eval x,a.eval y]).run P w=r→
   (execOp a.eval ⟨dst,.call {callee:= .builtin .append,args:= #[x,y],argTypes:= #[ts,tx]},ty,pos,after,guard⟩).run P w=r.andThen fun v w'=> .ok (.value v) w':=by
  intro r hr
  subst hr
  simp only[execOp,resolve,Sem.run_bind,Sem.run_pure,Result.andThen_ok,invoke,builtin,hargs]
 by_cases hm0:m=0
 ·subst hm0
  have hcells:cells=[]:=List.eq_nil_of_length_eq_zero (by rw[hc];simp)
  have hax:arrx.toList=[]:=List.eq_nil_of_length_eq_zero (by simp at hszx⊢;exact hszx)
  have hrun:=w7 (P:=P) (ty:=ty) (base:=base) (n:=n) (cap:=n) (v:=a.eval y) h1 h2 htx hlenx (hfx w rfl) (by omega)
  rw[←hxe,hax]at hrun
  have hrun2:(Builtin.append_ #[ts,tx] ty #[a.eval x,a.eval y]).run P w= .ok (.slice base (n+0) n) w:=by
   rw[hrun]
   cases base<;>simp[storeCells]
  have hr:=hexec _ hrun2
  unfold Oper.wp
  rw[hr]
  refine hK _ w H β (by simpa[kwOf,knOf,kdOf]using Step.refl (β:=β) hon) ?_ (fun k b hb=>by simp at hb)
  refine⟨base,n,rfl,Nat.le_refl _,?_⟩
  rw[hcells,List.append_nil];exact hh
 ·have hbnd: ¬Builtin.nextslicecap (n+m) n*i.bytes>2^48:=by
   have:=Om (n+m) n (by omega)
   have h3:Builtin.nextslicecap (n+m) n*i.bytes≤(2*(n+m)+1000)*i.bytes:=Nat.mul_le_mul_right _ this
   omega
  obtain⟨c,w1,hc1,e1,e2,e3,e4,hrun⟩:=BH (P:=P) (ty:=ty) (v:=a.eval y) (base:=base) (n:=n) (cap:=n) h1 h2 hz' htx hlenx (arrx:=arrx) (arro:=arro) hfx (fun w' hw'=>by rw[←hxe];exact hfo w' hw') (by omega) (by omega) hbnd
  rw[←hxe]at hrun
  have hr:=hexec _ hrun
  unfold Oper.wp
  rw[hr]
  have hon1:=hon.congr e1
  have hst:=Step.new (β:=β) (arro++arrx++Builtin.zeroCells zv.cells (c-(n+m))) e hon1
  have hsize:w1.heap.size=w.heap.size:=by rw[e1]
  rw[hsize]at hst
  refine hK _ _ _ β (by
   simp only[kwOf,knOf,kdOf,List.map_nil,List.filter_nil]
   exact⟨by rw[hst.os,e2],by rw[hst.tape,e3],by rw[hst.output,e4],(by simp[hsize]),fun b hb' hk'=>(by rw[hst.keep b (by omega) (fun q hq=>by simp at hq),e1]),hst.hle,fun b hb'=>(by have:=hst.hnew b hb';rwa [hsize]at this),hst.hon,hst.beta,fun k hk=>by simp at hk,fun k hk=>by simp at hk⟩) ?_ (fun k b hb=>by simp at hb)
  refine⟨_,c,rfl,hc1,.inr ⟨w.heap.size,0,_,rfl,Heap.set_at _ _ _,?_⟩⟩
  have hl1:(cs++cells).length=(arro++arrx).toList.length:=by simp[hcs,hc,hszo,hszx]
  rw[List.drop_zero,hl1]
  have:(arro++arrx++Builtin.zeroCells zv.cells (c-(n+m))).toList.take (arro++arrx).toList.length=arro.toList++arrx.toList:=by
   rw[Array.toList_append (xs:=arro++arrx),List.take_left,Array.toList_append]
  rw[this]
  have hle:=Heap.set_le (arro++arrx++Builtin.zeroCells zv.cells (c-(n+m))) (hon.none (Nat.le_refl _))
  exact Ha (hso.mono hle) (hsx.mono hle)
def gS3F(P:Program):Op→Option Tmp→(Nat→Option WB)→List WV→HR
 | .slice t _ none (some _) (some _),_,_,[.c (.one a),.c (.one r),.c (.one m)]=>match asL a,asN r,asN m,qW P t with
  |some ⟨t',b,l⟩,some (k1,_,r),some (k2,_,m),some es=>bif Nat.beq es t'.w&&kbeq k1 k2 then .ok [r≤l.length,r=m] (.c (.one (.fc t' (.s b.len b.e) (l.take r)))) [] []else .bad
  |_,_,_,_=> .bad
 |_,_,_,_=> .bad
def NB:Ext P:=⟨gS3F P,by
 intro op dst ty bl vs hl
 unfold gS3F
 split
 ·rename_i t x z z' a r m
  split
  ·rename_i t' b l k1 rb r' k2 mb m' es hL hr hm hes
   cases hb:Nat.beq es t'.w&&kbeq k1 k2 with
   |false=>exact trivial
   |true=>
    simp only[Bool.and_eq_true]at hb
    have:=Nat.eq_of_beq_eq_true hb.1;subst this
    cases qN hb.2
    obtain⟨el,ol⟩:=zG hL
    obtain⟨er,or⟩:=qT hr
    obtain⟨em,om⟩:=qT hm
    intro hv _ hvc kin hk _
    rw[qf hk]
    have h1:r'≤l.length:=hvc _ List.mem_cons_self
    have h2:r'=m':=hvc (r'=m') (by simp)
    refine⟨?_,⟨Et (ol (hv _ List.mem_cons_self).1) r',rfl⟩,qh⟩
    show OpOk P _ _ [(x,(WV.c (.one a)).exp),(z,(WV.c (.one r)).exp),(z',(WV.c (.one m)).exp)] [] (.c (.one (.abs (fcP (allC t' (l.take r')) (l.take r').length)))) []
    rw[wk el,qD er,qD em,←h2,show(l.take r').length=r' by rw[List.length_take];omega]
    exact Q2 hes (qZ _ _) rfl h1 (by rw[vC])
  ·exact trivial
 ·exact trivial⟩
def gApF(P:Program):Op→Option Tmp→(Nat→Option WB)→List WV→HR
 | .call {callee:= .builtin .append,args:=aas,argTypes:=ts},_,_,vs=>match aas.toList,vs,ts.toList with
  |[_,_],[.c (.one (.fc t b l)),.c (.one y)],[t1,t2]=>match asL y,elB P t1 with
   |some ⟨t',by_,xs⟩,some (_,bytes)=>bif zOk P t1 t&&(isSl P t2&&(Nat.blt 0 bytes&&Nat.ble ((2*(b.len+by_.len)+1000)*bytes) 281474976710656))then
     (if h:(Ty.sl t').beq (.sl t)=true then(bif by_.e.le b.e then .ok [] (vL t (b.len+by_.len) b.e (l++j0 (t:= .sl t') (t':= .sl t) h xs)) [] []else .bad)else .bad)else .bad
   |_,_=> .bad
  |_,_,_=> .bad
 |_,_,_,_=> .bad
def Nz:Ext P:=⟨gApF P,by
 intro op dst ty bl vs hl
 unfold gApF
 split
 ·rename_i aas ts
  split
  ·rename_i x y t b l y' t1 t2 e1 e2
   have:=zT e1;subst this
   have:=zT e2;subst this
   split
   ·rename_i t' by_ xs s0 bytes hL hb
    obtain⟨ey,oy⟩:=zG hL
    cases hc:zOk P t1 t&&(isSl P t2&&(Nat.blt 0 bytes&&Nat.ble ((2*(b.len+by_.len)+1000)*bytes) 281474976710656))with
    |false=>exact trivial
    |true=>
     simp only[Bool.and_eq_true]at hc
     simp only[cond_true]
     obtain⟨hz,htx,hby,hbig⟩:=hc
     have hby:0<bytes:=by simpa using hby
     have hbig:=Nat.le_of_ble_eq_true hbig
     obtain⟨z,b0,f1,f2,f3,f4,f5⟩:=Ax hz
     rw[f2]at hb;cases hb
     obtain⟨ex,hex⟩:=Ho htx
     split
     ·rename_i htt
      have:=Ty.beq_eq htt
      cases this
      cases hle:by_.e.le b.e with
      |false=>exact trivial
      |true=>
       intro hv _ hvc kin hk _
       rw[qf hk]
       have hcast:j0 (t:= .sl t) (t':= .sl t) htt xs=xs:=rfl
       rw[hcast]
       have hyb:=Bnd.sl (oy (hv (.c (.one y')) (by simp)).1)
       have hxb:=Bnd.sl (show Bnd (.sl t) b l from(hv (.c (.one (.fc t b l))) (by simp)).1)
       refine⟨?_,⟨⟨by rw[List.length_append];have:=hyb.1;have:=hxb.1;omega,fun u hu=>?_⟩,rfl⟩,qh⟩
       ·show OpOk P _ _ [(x,.c (.one (.abs (fcP (allC t l) l.length)))),(y,(WV.c (.one y')).exp)] [] (vL t _ _ (l++xs)).exp []
        rw[wk ey,Dt,PD,List.length_append]
        refine q1s f2 f1 hex hby (qZ _ _) (qZ _ _) (Nat.le_trans (Nat.mul_le_mul_right _ ?_) hbig)
        have:=hyb.1;have:=hxb.1;omega
       ·rcases List.mem_append.1 hu with hu|hu
        ·exact hxb.2 u hu
        ·exact Bnd.mono hle (hyb.2 u hu)
     ·exact trivial
   ·exact trivial
  ·exact trivial
 ·exact trivial⟩
abbrev tT3i:Ty:= .pr (.int .i64) (.pr (.int .i64) (.int .i64))
def z5(t:Int×Int×Int):Nat→Int→Int×Int×Int
 |0,v=>(v,t.2)
 |1,v=>(t.1,v,t.2.2)
 |_,v=>(t.1,t.2.1,v)
def gIxE(P:Program):Op→Option Tmp→(Nat→Option WB)→List WV→HR
 | .indexAddr t _ _,_,_,[.c (.one (.el k j fo w)),.c (.one (.dt (.int kk) b z))]=>match P.underlying t with
  |some (.array m e)=>match P.info? e with
   |some ie=>bif Nat.beq fo 0&&Nat.beq ie.size 1 then .ok [(0:Int)≤(show Int from z),(show Int from z)<(m:Int)] (.c (.one (.el k j (show Int from z).toNat w))) [] []else .bad
   |none=> .bad
  |_=> .bad
 |_,_,_,_=> .bad
def Y5:Ext P:=⟨gIxE P,by
 intro op dst ty bl vs hl
 unfold gIxE
 split
 ·rename_i t k j fo w kk b z
  split
  ·rename_i m e hu
   split
   ·rename_i ie he
    cases h0:Nat.beq fo 0&&Nat.beq ie.size 1 with
    |false=>exact trivial
    |true=>
     simp only[Bool.and_eq_true]at h0
     have:=Nat.eq_of_beq_eq_true h0.1;subst this
     have h1:=Nat.eq_of_beq_eq_true h0.2
     intro hv _ hvc kin hk _
     rw[qf hk]
     have hz:(0:Int)≤(show Int from z):=hvc _ List.mem_cons_self
     have hlt:(show Int from z)<(m:Int):=hvc _ (List.mem_cons_of_mem _ List.mem_cons_self)
     refine⟨?_,⟨trivial,rfl⟩,qh⟩
     show OpOk P (.indexAddr _ _ _) ty [(_,.c (.one (.loc k (j*w+0)))),(_,vInt kk z)] [] (.c (.one (.loc k (j*w+(show Int from z).toNat)))) []
     rw[show j*w+(show Int from z).toNat=(j*w+0)+(show Int from z).toNat*ie.size by rw[h1];simp]
     exact vJ hu he hz hlt
   ·exact trivial
  ·exact trivial
 ·exact trivial⟩
def gStE(P:Program):Op→Option Tmp→(Nat→Option WB)→List WV→HR
 | .store ty _ _,_,bl,[.c (.one (.el k i fo w)),.c (.one (.dt (.int .i64) bv v))]=>match bl k,qB P ty with
  |some (.gro (.pr (.int .i64) (.pr (.int .i64) (.int .i64))) b l),some (_,s)=>bif Nat.beq w 3&&Nat.beq s 1 then
    .ok [i<List.length (show List tT3i.den from l),fo<3,Bnd tT3i b (z5 (gt tT3i l i) fo v)] v6 [k] [(k,some (.gro tT3i b (List.set (show List tT3i.den from l) i (z5 (gt tT3i l i) fo v))))]else .bad
  |_,_=> .bad
 |_,_,_,_=> .bad
def Y7:Ext P:=⟨gStE P,by
 intro op dst ty bl vs hl
 unfold gStE
 split
 ·rename_i ty' x y k i fo w bv v
  split
  ·rename_i b l g s hbl hs
   cases h0:Nat.beq w 3&&Nat.beq s 1 with
   |false=>exact trivial
   |true=>
    simp only[Bool.and_eq_true]at h0
    have q1:=Nat.eq_of_beq_eq_true h0.1;have q2:=Nat.eq_of_beq_eq_true h0.2
    subst q1 q2
    intro hv hbo hvc kin hk hkb
    rw[jn hk hkb hbl]
    have hi:i<List.length (show List tT3i.den from l):=hvc _ List.mem_cons_self
    have hf:fo<3:=hvc (fo<3) (by simp)
    have hbx:Bnd tT3i b (z5 (gt tT3i l i) fo v):=hvc (Bnd tT3i b (z5 (gt tT3i l i) fo v)) (by simp)
    have hlb: ∀u∈(show List tT3i.den from l),Bnd tT3i b u:=hbo k _ hbl
    have hvo:WC.ok (.one (.dt (.int .i64) bv v)):=hv (.c (.one (.dt (.int .i64) bv v))) (by simp)
    refine⟨?_,zj,jo (fun u hu=>?_)⟩
    ·have key: ∀{a m p:List WA}{b':Bd}{z:tT3i.den},carve [.dt tT3i b (gt tT3i l i)] fo 1=some (a,m,p)→reify tT3i (a++([.dt (.int .i64) bv v]++p))=some (b',z,[])→z=z5 (gt tT3i l i) fo v→
       OpOk P (.store ty' x y) ty [(x,.c (.one (.loc k (i*3+fo)))),(y,(WV.c (.one (.dt (.int .i64) bv v))).exp)] [(k,(WB.gro tT3i b l).exp)] w8 [(k,some (WB.gro tT3i b (List.set (show List tT3i.den from l) i (z5 (gt tT3i l i) fo v))).exp)]:=by
      intro a m p b' z hc hr hz
      obtain⟨h1,h2,h3,h4⟩:=IG (t':=tT3i) (v:= .one (.dt (.int .i64) bv v)) hvo hlb hi rfl hc hr
      rw[hz]at h1
      exact(CC hs h3 h4).weak (fun _ _ _ h=>h) (Bj (CH h1))
     show OpOk P (.store ty' x y) ty [(x,.c (.one (.loc k (i*3+fo)))),(y,(WV.c (.one (.dt (.int .i64) bv v))).exp)] [(k,(WB.gro tT3i b l).exp)] w8 [(k,some (WB.gro tT3i b (List.set (show List tT3i.den from l) i (z5 (gt tT3i l i) fo v))).exp)]
     rcases(by omega:fo=0∨fo=1∨fo=2)with rfl|rfl|rfl
     ·exact key rfl rfl rfl
     ·exact key rfl rfl rfl
     ·exact key rfl rfl rfl
    ·rcases Fw hu with hu|rfl
     ·exact hlb u hu
     ·exact hbx
  ·exact trivial
 ·exact trivial⟩
end
end
section
abbrev bMs2:Bd:= .p (.s 8 (bV3 64)) (.p (.s 8 (.p (.n 1048576) (.p (.n 1048576) (.n 1048576)))) (.s 8 (.n 1048576)))
def ptsN(s:Dice):Nat→List V3×Dice
 |0=>([],s)
 |n+1=>((ptsN s n).1++[j8 (ptsN s n).2],j7 (ptsN s n).2)
def facN(g:Int)(s:Dice):Nat→(List Tri3×List Int)×Dice
 |0=>(([],[]),s)
 |n+1=>(((facN g s n).1.1++[(q7 (facN g s n).2 g,q7 (q6 (facN g s n).2) g,q7 (q6 (q6 (facN g s n).2)) g)],(facN g s n).1.2++[q7 (q6 (q6 (q6 (facN g s n).2))) 3]),q6 (q6 (q6 (q6 (facN g s n).2))))
def soN(s:Dice):Nat:=(3+q7 s 5).toNat
def soP(s:Dice):List V3×Dice:=ptsN (q6 s) (soN s)
def soM(s:Dice):Nat:=(q7 (soP s).2 6).toNat
def soF(s:Dice):(List Tri3×List Int)×Dice:=facN ((soP s).1.length:Int) (q6 (soP s).2) (soM s)
def jc(s:Dice):Msh:=((soP s).1,(soF s).1.1,(soF s).1.2)
def qK(s:Dice):Dice:=(soF s).2
theorem q23{s u:Dice}{l:List V3}{N:Nat}{c:Int}(h:(l,u)=ptsN s (N-c.toNat))(hc:0<c)(hN:c.toNat≤N):(l++[j8 u],j7 u)=ptsN s (N-(c-1).toNat):=by
 rw[show N-(c-1).toNat=(N-c.toNat)+1 by omega,ptsN,←h]
theorem q1q{g:Int}{s u:Dice}{l:List Tri3}{r:List Int}{N:Nat}{c:Int}(h:((l,r),u)=facN g s (N-c.toNat))(hc:0<c)(hN:c.toNat≤N):
  ((l++[(q7 u g,q7 (q6 u) g,q7 (q6 (q6 u)) g)],r++[q7 (q6 (q6 (q6 u))) 3]),q6 (q6 (q6 (q6 u))))=facN g s (N-(c-1).toNat):=by
 rw[show N-(c-1).toNat=(N-c.toNat)+1 by omega,facN,←h]
theorem GI(s:Dice): ∀n,(ptsN s n).1.length=n
 |0=>rfl
 |n+1=>by rw[ptsN,List.length_append,GI s n];rfl
theorem Gm(g:Int)(s:Dice): ∀n,(facN g s n).1.1.length=n∧(facN g s n).1.2.length=n
 |0=>⟨rfl,rfl⟩
 |n+1=>by
  have h:=Gm g s n
  rw[facN];simp only[List.length_append,h.1,h.2];exact⟨rfl,rfl⟩
theorem q22{s:Dice}{b:Bd}(h:Bnd js (.p b.l (.n (max b.r.nb b.l.len))) s)(n:Nat):Bnd js (.p b.l (.n (max b.r.nb b.l.len))) (ptsN s n).2:=by
 induction n with
 |zero=>exact h
 |succ n ih=>
  have e:(ptsN s (n+1)).2=j7 (ptsN s n).2:=by simp only[ptsN]
  rw[e]
  generalize(ptsN s n).2=y at*
  exact JB ih
theorem q1p{g:Int}{s:Dice}{b:Bd}(h:Bnd js (.p b.l (.n (max b.r.nb b.l.len))) s)(n:Nat):Bnd js (.p b.l (.n (max b.r.nb b.l.len))) (facN g s n).2:=by
 induction n with
 |zero=>exact h
 |succ n ih=>
  have e:(facN g s (n+1)).2=q6 (q6 (q6 (q6 (facN g s n).2))):=by simp only[facN]
  rw[e]
  generalize(facN g s n).2=y at*
  have h1:=jM ih
  generalize q6 y=y1 at*
  have h2:=jM h1
  generalize q6 y1=y2 at*
  have h3:=jM h2
  generalize q6 y2=y3 at*
  exact jM h3
theorem WP{s:Dice}{b:Bd}(h:Bnd js b s):Bnd js (.p b.l (.n (max b.r.nb b.l.len))) (qK s):=
 q1p (b:=b) (jM (b:=b) (q22 (b:=b) (DZ (b:=b) h) _)) _
theorem P2(s:Dice):Bnd tV3 (bV3 64) (j8 s):=Bnd.mono (show(bV3 5).le (bV3 64)=true by decide) (Lz s)
theorem SN(s:Dice): ∀n,∀x∈(ptsN s n).1,Bnd tV3 (bV3 64) x
 |0=>fun x hx=>(by cases hx)
 |n+1=>fun x hx=>by
  rw[ptsN]at hx
  rcases List.mem_append.1 hx with h|h
  ·exact SN s n x h
  ·rw[List.mem_singleton.1 h];exact P2 _
theorem Fy{s:Dice}{g:Int}{m:Nat}(hg:0<g)(hm:g≤m):Int.natAbs (q7 s g)≤m:=by have:=jX s hg;omega
theorem Sq{g:Int}(hg:0<g)(h8:g≤8)(s:Dice): ∀n,(∀x∈(facN g s n).1.1,Bnd tT3i (.p (.n 1048576) (.p (.n 1048576) (.n 1048576))) x)∧ ∀x∈(facN g s n).1.2,Bnd (.int .i64) (.n 1048576) x
 |0=>⟨fun x hx=>(by cases hx),fun x hx=>(by cases hx)⟩
 |n+1=>by
  obtain⟨h1,h2⟩:=Sq hg h8 s n
  rw[facN]
  refine⟨fun x hx=>?_,fun x hx=>?_⟩
  ·rcases List.mem_append.1 hx with h|h
   ·exact h1 x h
   ·rw[List.mem_singleton.1 h]
    exact⟨Fy (m:=1048576) hg (by omega),Fy (m:=1048576) hg (by omega),Fy (m:=1048576) hg (by omega)⟩
  ·rcases List.mem_append.1 hx with h|h
   ·exact h2 x h
   ·rw[List.mem_singleton.1 h];exact Fy (m:=1048576) (by omega) (by omega)
theorem SW(s:Dice):3≤soN s∧soN s≤7:=by unfold soN;have:=jX s (m:=5) (by omega);omega
theorem SV(s:Dice):soM s≤5:=by unfold soM;have:=jX (soP s).2 (m:=6) (by omega);omega
theorem WL(s:Dice):(soP s).1.length=soN s:=GI _ _
theorem A9(s:Dice):Bnd tMsh bMs2 (jc s):=by
 have h1:=SW s;have h2:=SV s;have h3:=WL s
 have h4:=Gm ((soP s).1.length:Int) (q6 (soP s).2) (soM s)
 have h5:=Sq (g:=((soP s).1.length:Int)) (by omega) (by omega) (q6 (soP s).2) (soM s)
 refine⟨⟨show(soP s).1.length≤8 by omega,SN _ _⟩,⟨show(soF s).1.1.length≤8 by unfold soF;omega,h5.1⟩,⟨show(soF s).1.2.length≤8 by unfold soF;omega,h5.2⟩⟩
theorem q1r{g g':Int}{s u:Dice}{l:List Tri3}{r:List Int}{N:Nat}{c:Int}(e:g'=g)(h:((l,r),u)=facN g s (N-c.toNat))(hc:0<c)(hN:c.toNat≤N):
  ((l++[(q7 u g',q7 (q6 u) g',q7 (q6 (q6 u)) g')],r++[q7 (q6 (q6 (q6 u))) 3]),q6 (q6 (q6 (q6 u))))=facN g s (N-(c-1).toNat):=by subst e;exact q1q h hc hN
theorem WM{s u:Dice}{l:List V3}(h:(l,u)=soP s):(([],[]),q6 u)=facN ((soP s).1.length:Int) (q6 (soP s).2) (soM s-(q7 u 6).toNat)∧0≤q7 u 6∧(q7 u 6).toNat≤soM s:=by
 have e:soM s=(q7 u 6).toNat:=by unfold soM;rw[←h]
 have:=jX u (m:=6) (by omega)
 rw[e,Nat.sub_self,←h]
 exact⟨rfl,by omega,Nat.le_refl _⟩
theorem JA{s u v:Dice}{l:List V3}{f:List Tri3×List Int}{d:Int}(h:(l,u)=soP s)(hJ:(f,v)=facN ((soP s).1.length:Int) (q6 (soP s).2) (soM s-d.toNat)∧0≤d∧d.toNat≤soM s)(hd: ¬0<d):v=qK s∧(l,f.1,f.2)=jc s:=by
 have e:soM s-d.toNat=soM s:=by omega
 obtain⟨h1,_⟩:=hJ
 rw[e]at h1
 have h2:(f,v)=soF s:=h1
 unfold qK jc
 rw[←h2,←h];exact⟨rfl,rfl⟩
def oddA(s:Dice)(m:Msh):Nat:=(q7 s (m.2.1.length:Int)).toNat
def oddK(s:Dice):Int:=q7 (q6 s) 7
def rmAt{α:Type}(l:List α)(a:Nat):List α:=l.take a++l.drop (a+1)
def oddR(s:Dice)(m:Msh):Msh×Dice:=
 if m.2.1.length=0∨m.1.length=0 then(m,s)
 else if oddK s=0 then((m.1,m.2.1.set (oddA s m) (z5 (triA m (oddA s m)) (q7 (q6 (q6 s)) 3).toNat (q7 (q6 (q6 (q6 s))) ((m.1.length+2:Nat):Int) -1)),m.2.2),q6 (q6 (q6 (q6 s))))
 else if oddK s=1 then((m.1,m.2.1.set (oddA s m) ((triA m (oddA s m)).2.1,(triA m (oddA s m)).1,(triA m (oddA s m)).2.2),m.2.2),q6 (q6 s))
 else if oddK s=2 then((m.1,rmAt m.2.1 (oddA s m),if oddA s m<m.2.2.length then rmAt m.2.2 (oddA s m)else m.2.2),q6 (q6 s))
 else if oddK s=3 then((m.1.set (q7 (q6 (q6 s)) (m.1.length:Int)).toNat (j8 (q6 (q6 (q6 s)))),m.2.1,m.2.2),j7 (q6 (q6 (q6 s))))
 else if oddK s=4 then((m.1,m.2.1++[triA m (oddA s m)],m.2.2++[1]),q6 (q6 s))
 else if oddK s=5 then(if 0≤(triA m (oddA s m)).1∧(triA m (oddA s m)).1<(m.1.length:Int)then
   ((m.1++[m.1.getD (triA m (oddA s m)).1.toNat (0,(0,0))],m.2.1.set (oddA s m) ((m.1.length:Int),(triA m (oddA s m)).2),m.2.2),q6 (q6 s))else(m,q6 (q6 s)))
 else((m.1,m.2.1,m.2.2.drop (min 1 m.2.2.length)),q6 (q6 s))
def oddV(s:Dice)(m:Msh):Msh:=(oddR s m).1
def oddS(s:Dice)(m:Msh):Dice:=(oddR s m).2
theorem Zb{s:Dice}{m:Msh}{b:Bd}(h:Bnd js b s):Bnd js (.p b.l (.n (max b.r.nb b.l.len))) (oddS s m):=by
 have h0:=Ni (b:=b) h
 have h1:=jM (b:=b) h0
 have h2:=jM (b:=b) h1
 have h3:=jM (b:=b) h2
 have h4:=jM (b:=b) h3
 have h5:Bnd js (.p b.l (.n (max b.r.nb b.l.len))) (j7 (q6 (q6 (q6 s)))):=by
  generalize q6 (q6 (q6 s))=y at*
  exact JB h3
 have key: ∀{p:Msh×Dice}{q:Dice},p.2=q→Bnd js (.p b.l (.n (max b.r.nb b.l.len))) q→Bnd js (.p b.l (.n (max b.r.nb b.l.len))) p.2:=fun e h=>e▸h
 unfold oddS oddR
 split
 ·exact key rfl h0
 split
 ·exact key rfl h4
 split
 ·exact key rfl h2
 split
 ·exact key rfl h2
 split
 ·generalize j7 (q6 (q6 (q6 s)))=y at*;exact key rfl h5
 split
 ·exact key rfl h2
 split
 ·split<;>exact key rfl h2
 ·exact key rfl h2
section
variable {α:Type} {t:Ty} {b:Bd}
theorem l64{l:List t.den}(h:Bnd (.sl t) (.s 8 b) l):Bnd (.sl t) (.s 64 b) l:=⟨Nat.le_trans h.1 (by decide),h.2⟩
theorem Ia{l:List t.den}{i:Nat}{x:t.den}(h:Bnd (.sl t) (.s 8 b) l)(hx:Bnd t b x):Bnd (.sl t) (.s 64 b) (l.set i x):=by
 refine⟨by rw[List.length_set];exact Nat.le_trans h.1 (by decide),fun u hu=>?_⟩
 rcases List.mem_or_eq_of_mem_set hu with h1|rfl
 ·exact h.2 u h1
 ·exact hx
theorem LM{l:List t.den}{x:t.den}(h:Bnd (.sl t) (.s 8 b) l)(hx:Bnd t b x):Bnd (.sl t) (.s 64 b) (l++[x]):=by
 have h1:l.length≤8:=h.1
 refine⟨by rw[List.length_append];simp only[List.length_singleton];omega,fun u hu=>?_⟩
 rcases List.mem_append.1 hu with h1|h1
 ·exact h.2 u h1
 ·rw[List.mem_singleton.1 h1];exact hx
theorem rm64{l:List t.den}{i:Nat}(h:Bnd (.sl t) (.s 8 b) l):Bnd (.sl t) (.s 64 b) (rmAt l i):=by
 have h1:l.length≤8:=h.1
 unfold rmAt
 refine⟨by rw[List.length_append,List.length_take,List.length_drop];omega,fun u hu=>?_⟩
 rcases List.mem_append.1 hu with h1|h1
 ·exact h.2 u (List.mem_of_mem_take h1)
 ·exact h.2 u (List.mem_of_mem_drop h1)
end
theorem Ln{x:Tri3}{i:Nat}{v:Int}{b:Nat}(h:Bnd tT3i (.p (.n b) (.p (.n b) (.n b))) x)(hv:v.natAbs≤b):Bnd tT3i (.p (.n b) (.p (.n b) (.n b))) (z5 x i v):=by
 unfold z5;split
 ·exact⟨hv,h.2⟩
 ·exact⟨h.1,hv,h.2.2⟩
 ·exact⟨h.1,h.2.1,hv⟩
theorem KS{l:List Tri3}{b:Nat}(h: ∀x∈l,Bnd tT3i (.p (.n b) (.p (.n b) (.n b))) x)(i:Nat):Bnd tT3i (.p (.n b) (.p (.n b) (.n b))) (l.getD i (0,(0,0))):=by
 rw[List.getD_eq_getElem?_getD]
 cases hg:l[i]? with
 |none=>exact⟨Nat.zero_le _,Nat.zero_le _,Nat.zero_le _⟩
 |some x=>exact h x (List.mem_of_getElem? hg)
theorem Je{s:Dice}{m:Msh}(h:Bnd tMsh bMs2 m):Bnd tMsh bMsh (oddV s m):=by
 obtain⟨h1,h2,h3⟩:=h
 have l1:m.1.length≤8:=h1.1
 have ht:Bnd tT3i (.p (.n 1048576) (.p (.n 1048576) (.n 1048576))) (triA m (oddA s m)):=KS h2.2 _
 unfold oddV oddR
 split
 ·exact⟨l64 h1,l64 h2,l64 h3⟩
 split
 ·exact⟨l64 h1,Ia h2 (Ln ht (by have:=jX (q6 (q6 (q6 s))) (m:=((m.1.length+2:Nat):Int)) (by omega);omega)),l64 h3⟩
 split
 ·exact⟨l64 h1,Ia h2 ⟨ht.2.1,ht.1,ht.2.2⟩,l64 h3⟩
 split
 ·refine⟨l64 h1,rm64 h2,?_⟩
  show Bnd (.sl (.int .i64)) (.s 64 (.n 1048576)) (if _ then _ else _)
  split
  ·exact rm64 h3
  ·exact l64 h3
 split
 ·exact⟨Ia h1 (P2 _),l64 h2,l64 h3⟩
 split
 ·exact⟨l64 h1,LM h2 ht,LM h3 (show Int.natAbs 1≤1048576 by decide)⟩
 split
 ·split
  ·exact⟨LM h1 (vM h1.2 _),Ia h2 ⟨show Int.natAbs (m.1.length:Int)≤1048576 by omega,ht.2⟩,l64 h3⟩
  ·exact⟨l64 h1,l64 h2,l64 h3⟩
 ·exact⟨l64 h1,l64 h2,⟨by rw[List.length_drop];have:m.2.2.length≤8:=h3.1;omega,fun u hu=>h3.2 u (List.mem_of_mem_drop hu)⟩⟩
end
abbrev TM:FB:=⟨34,(.pr (.sl (.int .i64)) (.nat .i64)),(.p (.s 1048576 (.n 9223372036854775808)) (.n 1048576)),[],[],fun s z=>[],fun tb b s z=> .c (.agg [.dt tMsh bMs2 (jc s)]),fun s z=>qK s,fun tb b=> .p tb.l (.n (max tb.r.nb tb.l.len))⟩
theorem TN:TM.OK Tryz.prog:=mkB' hmix 53 Tryz.func34 rfl rfl (by decide) [(19,.b KL),(24,.b DE)] (fun _=>rfl) (fun _ _=>rfl) (fun _ _ _ _=>rfl) (fun(s:List Int×Nat)  tb b hs hx hp=>⟨qP (A9 s),WP hs⟩) (fun(s:List Int×Nat)  hs hx hp=>by
 refine⟨.loop [.s 4 (.int .i64) (.n 8),.ex (gboX 3 90001 [] [(.vl (.slice none 0 0)),(.vl (.slice none 0 0))] (.pr .rat (.pr .rat .rat)) (.p (.n 64) (.p (.n 64) (.n 64))) 8),.r 100000 (.pr (.sl (.int .i64)) (.nat .i64)) (.p (.s 1048576 (.n 9223372036854775808)) (.n 1048576))] (fun((c,l,u):Int×(List (Rat×Rat×Rat))×List Int×Nat)=>(l,u)=ptsN (q6 s) (soN s-(c).toNat)∧0≤c∧(c).toNat≤soN s) (fun((c,l,u):Int×(List (Rat×Rat×Rat))×List Int×Nat)=>(c).toNat) (fun((c,l,u):Int×(List (Rat×Rat×Rat))×List Int×Nat)=> .cond (.h 5 1 (.ext q1o) (.h 5 4 (.mk (.im (.pr .rat (.pr .rat .rat)) (.p (.n 64) (.p (.n 64) (.n 64))))) (.nil))) (.pre 6 (.frz 90001 true []) (.loop [.s 5 (.int .i64) (.n 6),.ex (Su 3 90002 90003 [(.dt (.sl (.pr .rat (.pr .rat .rat))) (.s 8 (.p (.n 64) (.p (.n 64) (.n 64)))) l)] [] [] (.pr (.int .i64) (.pr (.int .i64) (.int .i64))) (.p (.n 1048576) (.p (.n 1048576) (.n 1048576))) (.int .i64) (.n 1048576) 8),.r 100000 (.pr (.sl (.int .i64)) (.nat .i64)) (.p (.s 1048576 (.n 9223372036854775808)) (.n 1048576))] (fun((d,f,v):Int×((List (Int×Int×Int))×List Int)×List Int×Nat)=>(f,v)=facN ((soP s).1.length:Int) (q6 (soP s).2) (soM s-(d).toNat)∧0≤d∧(d).toNat≤soM s) (fun((d,f,v):Int×((List (Int×Int×Int))×List Int)×List Int×Nat)=>(d).toNat) (fun((d,f,v):Int×((List (Int×Int×Int))×List Int)×List Int×Nat)=> .cond (.h 10 12 (.mk (.im (.pr (.int .i64) (.pr (.int .i64) (.int .i64))) (.p (.n 1048576) (.p (.n 1048576) (.n 1048576))))) (.h 10 13 (.mk (.gro (.pr (.int .i64) (.pr (.int .i64) (.int .i64))) (.p (.n 1048576) (.p (.n 1048576) (.n 1048576))))) (.h 10 18 (.mk (.im (.int .i64) (.n 1048576))) (.h 10 19 (.mk (.gro (.int .i64) (.n 1048576))) (.nil))))) (.pre 11 (.frz 90002 true []) (.pre 11 (.frz 90003 true []) (.nil))))))),kcast (by kernel_rfl) (I (?_:(0:Int)<5) (I (rfl:([]:List WA)=[]) (I (rfl:([(.vl (.slice none 0 0)),(.vl (.slice none 0 0))]:List WA)=[(.vl (.slice none 0 0)),(.vl (.slice none 0 0))]) (I (rfl:0=([]:List (Rat×Rat×Rat)).length) (I (⟨by rw[show soN s-(3+q7 s 5).toNat=0 from Nat.sub_self _];rfl,by have:=jX s (m:=5) (by omega);omega,Nat.le_refl _⟩:(([]:List (Rat×Rat×Rat)),q6 s)=ptsN (q6 s) (soN s-(3+(q7 s 5)).toNat)∧0≤3+(q7 s 5)∧(3+(q7 s 5)).toNat≤soN s) (fun(c:Int)(l:List (Rat×Rat×Rat))(u:List Int×Nat)(hb1:HB [.s 4 (.int .i64) (.n 8),.ex (gboX 3 90001 [] [(.vl (.slice none 0 0)),(.vl (.slice none 0 0))] (.pr .rat (.pr .rat .rat)) (.p (.n 64) (.p (.n 64) (.n 64))) 8),.r 100000 (.pr (.sl (.int .i64)) (.nat .i64)) (.p (.s 1048576 (.n 9223372036854775808)) (.n 1048576))] (c,l,u))(hI:(l,u)=ptsN (q6 s) (soN s-(c).toNat)∧0≤c∧(c).toNat≤soN s)=>have hv10:=(show Int.natAbs c≤8 from hb1.1);have hv11:=(show l.length≤8 from hb1.2.1.1.1);have hsn:=(SW s);have hll:=(show l.length=soN s-c.toNat by have:=GI (q6 s) (soN s-c.toNat);rw[←hI.1]at this;exact this);Sp (0<c) (fun h2=>I (?_:l.length=l.length) (I (show Int.natAbs (c-1)≤8 by omega:Bnd (.int .i64) (.n 8) (c-1)) (I (rfl:([]:List WA)=[]) (I (rfl:([(.vl (.slice none 0 0)),(.vl (.slice none 0 0))]:List WA)=[(.vl (.slice none 0 0)),(.vl (.slice none 0 0))]) (I (by(try simp only[List.length_append,List.length_cons,List.length_nil])<;>omega:l.length+[j8 u].length=(l++[j8 u]).length) (I (by(try simp only[List.length_append,List.length_cons,List.length_nil])<;>omega:l.length+[j8 u].length≤8) (And.intro (⟨q23 hI.1 (by omega) hI.2.2,by omega,by omega⟩:(l++[j8 u],j7 u)=ptsN (q6 s) (soN s-(c-1).toNat)∧0≤c-1∧(c-1).toNat≤soN s) (?_:(c-1).toNat<(c).toNat)))))))) (fun h3=>I (?_:l.length=l.length) (have hSP:=(show(l,u)=soP s by unfold soP;rw[hI.1,show soN s-c.toNat=soN s by omega]);I (?_:(0:Int)<6) (I (rfl:([(.dt (.sl (.pr .rat (.pr .rat .rat))) (.s 8 (.p (.n 64) (.p (.n 64) (.n 64)))) l)]:List WA)=[(.dt (.sl (.pr .rat (.pr .rat .rat))) (.s 8 (.p (.n 64) (.p (.n 64) (.n 64)))) l)]) (I (rfl:([]:List WA)=[]) (I (rfl:([]:List WA)=[]) (I (rfl:0=([]:List (Int×Int×Int)).length) (I (rfl:0=([]:List Int).length) (I (?_:0≤8) (I (?_:0≤8) (I ((WM hSP):((([]:List (Int×Int×Int)),([]:List Int)),q6 u)=facN ((soP s).1.length:Int) (q6 (soP s).2) (soM s-(q7 u 6).toNat)∧0≤q7 u 6∧(q7 u 6).toNat≤soM s) (fun(d:Int)(f:(List (Int×Int×Int))×List Int)(v:List Int×Nat)(hb4:HB [.s 5 (.int .i64) (.n 6),.ex (Su 3 90002 90003 [(.dt (.sl (.pr .rat (.pr .rat .rat))) (.s 8 (.p (.n 64) (.p (.n 64) (.n 64)))) l)] [] [] (.pr (.int .i64) (.pr (.int .i64) (.int .i64))) (.p (.n 1048576) (.p (.n 1048576) (.n 1048576))) (.int .i64) (.n 1048576) 8),.r 100000 (.pr (.sl (.int .i64)) (.nat .i64)) (.p (.s 1048576 (.n 9223372036854775808)) (.n 1048576))] (d,f,v))(hJ:(f,v)=facN ((soP s).1.length:Int) (q6 (soP s).2) (soM s-(d).toNat)∧0≤d∧(d).toNat≤soM s)=>have hv7:=(show Int.natAbs d≤6 from hb4.1);have hv8:=(show f.1.length≤8 from hb4.2.1.1.1.1);have hv9:=(show f.2.length≤8 from hb4.2.1.1.2.1);have hsm:=(SV s);have hlS:=(show((l.length:Nat):Int)=((soP s).1.length:Int) by rw[←hSP]);have hfl:=(show f.1.length=soM s-d.toNat∧f.2.length=soM s-d.toNat by have:=Gm ((soP s).1.length:Int) (q6 (soP s).2) (soM s-d.toNat);rw[←hJ.1]at this;exact this);Sp (0<d) (fun h5=>I (?_:(0:Int)<((l.length:Nat):Int)) (I (?_:(0:Int)<((l.length:Nat):Int)) (I (?_:(0:Int)<((l.length:Nat):Int)) (I (?_:f.1.length=f.1.length) (I (?_:(0:Int)<3) (I (?_:f.2.length=f.2.length) (I (show Int.natAbs (d-1)≤6 by omega:Bnd (.int .i64) (.n 6) (d-1)) (I (rfl:([(.dt (.sl (.pr .rat (.pr .rat .rat))) (.s 8 (.p (.n 64) (.p (.n 64) (.n 64)))) l)]:List WA)=[(.dt (.sl (.pr .rat (.pr .rat .rat))) (.s 8 (.p (.n 64) (.p (.n 64) (.n 64)))) l)]) (I (rfl:([]:List WA)=[]) (I (rfl:([]:List WA)=[]) (I (by(try simp only[List.length_append,List.length_cons,List.length_nil])<;>omega:f.1.length+[(q7 v ((l.length:Nat):Int),q7 (q6 v) ((l.length:Nat):Int),q7 (q6 (q6 v)) ((l.length:Nat):Int))].length=(f.1++[(q7 v ((l.length:Nat):Int),q7 (q6 v) ((l.length:Nat):Int),q7 (q6 (q6 v)) ((l.length:Nat):Int))]).length) (I (by(try simp only[List.length_append,List.length_cons,List.length_nil])<;>omega:f.2.length+[q7 (q6 (q6 (q6 v))) 3].length=(f.2++[q7 (q6 (q6 (q6 v))) 3]).length) (I (by(try simp only[List.length_append,List.length_cons,List.length_nil])<;>omega:f.1.length+[(q7 v ((l.length:Nat):Int),q7 (q6 v) ((l.length:Nat):Int),q7 (q6 (q6 v)) ((l.length:Nat):Int))].length≤8) (I (by(try simp only[List.length_append,List.length_cons,List.length_nil])<;>omega:f.2.length+[q7 (q6 (q6 (q6 v))) 3].length≤8) (And.intro (⟨q1r (l:=f.1) (r:=f.2) hlS hJ.1 (by omega) hJ.2.2,by omega,by omega⟩:((f.1++[(q7 v ((l.length:Nat):Int),q7 (q6 v) ((l.length:Nat):Int),q7 (q6 (q6 v)) ((l.length:Nat):Int))],f.2++[q7 (q6 (q6 (q6 v))) 3]),q6 (q6 (q6 (q6 v))))=facN ((soP s).1.length:Int) (q6 (soP s).2) (soM s-(d-1).toNat)∧0≤d-1∧(d-1).toNat≤soM s) (?_:(d-1).toNat<(d).toNat)))))))))))))))) (fun h6=>I (?_:f.1.length=f.1.length) (I (?_:f.2.length=f.2.length) (And.intro ((JA hSP hJ h6).1:v=qK s) (((JA hSP hJ h6).2:(l,f.1,f.2)=jc s))))))))))))))))))))))⟩<;>omega)
abbrev TL:CtrB Tryz.prog:=FB.c TN
def toNF(slot b y:Nat)(st:WSt):Option (List Prop×WSt):=
 match look st.m slot with
 |some (.c (.one (.dt (.int k) b' x)))=>bif qV st.m then some ([(show Int from x)=(y:Int),y≤b],setV st slot (.c (.one (.dt (.nat k) (.n b) y))))else none
 |_=>none
def toN(slot b y:Nat):PExt:=⟨fun _ st=>toNF slot b y st,by
 intro n Ks st st' vc hk h hvc
 unfold toNF at h
 split at h
 ·rename_i k b' x hl
  cases hn:qV st.m with
  |false=>rw[hn]at h;cases h
  |true=>
   rw[hn]at h
   simp only[cond_true,Option.some.injEq,Prod.mk.injEq]at h;obtain⟨rfl,rfl⟩:=h
   have e:(show Int from x)=(y:Int):=hvc _ List.mem_cons_self
   have e2:y≤b:=hvc (y≤b) (by simp)
   refine wN hk hn hl ?_ ⟨e2,rfl⟩
   show AV.c (.one (.val (.int k (y:Int))))=AV.c (.one (.val (.int k (show Int from x))))
   rw[e]
 ·cases h⟩
section
section
variable {s:Dice} {m:Msh}
theorem I5(h:m.2.1.length=0∨m.1.length=0):oddR s m=(m,s):=by unfold oddR;rw[if_pos h]
theorem SG(h: ¬(m.2.1.length=0∨m.1.length=0))(k:q7 (q6 s) 7=0):oddR s m=((m.1,m.2.1.set (oddA s m) (z5 (triA m (oddA s m)) (q7 (q6 (q6 s)) 3).toNat (q7 (q6 (q6 (q6 s))) ((m.1.length+2:Nat):Int) -1)),m.2.2),q6 (q6 (q6 (q6 s)))):=by
 have k':oddK s=0:=k
 unfold oddR;rw[if_neg h,if_pos k']
theorem SH(h: ¬(m.2.1.length=0∨m.1.length=0))(k:q7 (q6 s) 7=1):oddR s m=((m.1,m.2.1.set (oddA s m) ((triA m (oddA s m)).2.1,(triA m (oddA s m)).1,(triA m (oddA s m)).2.2),m.2.2),q6 (q6 s)):=by
 have k':oddK s=1:=k
 unfold oddR;rw[if_neg h,if_neg (by omega),if_pos k']
theorem SI(h: ¬(m.2.1.length=0∨m.1.length=0))(k:q7 (q6 s) 7=2)(e:oddA s m<m.2.2.length):oddR s m=((m.1,m.2.1.take (oddA s m)++m.2.1.drop (oddA s m+1),m.2.2.take (oddA s m)++m.2.2.drop (oddA s m+1)),q6 (q6 s)):=by
 have k':oddK s=2:=k
 unfold oddR;rw[if_neg h,if_neg (by omega),if_neg (by omega),if_pos k',if_pos e];rfl
theorem Oo(h: ¬(m.2.1.length=0∨m.1.length=0))(k:q7 (q6 s) 7=2)(e: ¬oddA s m<m.2.2.length):oddR s m=((m.1,m.2.1.take (oddA s m)++m.2.1.drop (oddA s m+1),m.2.2),q6 (q6 s)):=by
 have k':oddK s=2:=k
 unfold oddR;rw[if_neg h,if_neg (by omega),if_neg (by omega),if_pos k',if_neg e];rfl
theorem SJ(h: ¬(m.2.1.length=0∨m.1.length=0))(k:q7 (q6 s) 7=3):oddR s m=((m.1.set (q7 (q6 (q6 s)) (m.1.length:Int)).toNat (j8 (q6 (q6 (q6 s)))),m.2.1,m.2.2),j7 (q6 (q6 (q6 s)))):=by
 have k':oddK s=3:=k
 unfold oddR;rw[if_neg h,if_neg (by omega),if_neg (by omega),if_neg (by omega),if_pos k']
theorem SK(h: ¬(m.2.1.length=0∨m.1.length=0))(k:q7 (q6 s) 7=4):oddR s m=((m.1,m.2.1++[triA m (oddA s m)],m.2.2++[1]),q6 (q6 s)):=by
 have k':oddK s=4:=k
 unfold oddR;rw[if_neg h,if_neg (by omega),if_neg (by omega),if_neg (by omega),if_neg (by omega),if_pos k']
theorem SL(h: ¬(m.2.1.length=0∨m.1.length=0))(k:q7 (q6 s) 7=5)(e:0≤(triA m (oddA s m)).1)(f:(triA m (oddA s m)).1<(m.1.length:Int)):
  oddR s m=((m.1++[m.1.getD (triA m (oddA s m)).1.toNat (0,(0,0))],m.2.1.set (oddA s m) ((m.1.length:Int),(triA m (oddA s m)).2),m.2.2),q6 (q6 s)):=by
 have k':oddK s=5:=k
 unfold oddR;rw[if_neg h,if_neg (by omega),if_neg (by omega),if_neg (by omega),if_neg (by omega),if_neg (by omega),if_pos k',if_pos ⟨e,f⟩]
theorem FC(h: ¬(m.2.1.length=0∨m.1.length=0))(k:q7 (q6 s) 7=5)(e: ¬(0≤(triA m (oddA s m)).1∧(triA m (oddA s m)).1<(m.1.length:Int))):oddR s m=(m,q6 (q6 s)):=by
 have k':oddK s=5:=k
 unfold oddR;rw[if_neg h,if_neg (by omega),if_neg (by omega),if_neg (by omega),if_neg (by omega),if_neg (by omega),if_pos k',if_neg e]
theorem SM(h: ¬(m.2.1.length=0∨m.1.length=0))(k:q7 (q6 s) 7=6):oddR s m=((m.1,m.2.1,m.2.2.drop (min 1 m.2.2.length)),q6 (q6 s)):=by
 have k':oddK s=6:=k
 unfold oddR;rw[if_neg h,if_neg (by omega),if_neg (by omega),if_neg (by omega),if_neg (by omega),if_neg (by omega),if_neg (by omega)]
theorem jr{x:Msh}{y:Dice}(h:oddR s m=(x,y)):y=oddS s m∧x=oddV s m:=by unfold oddS oddV;rw[h];exact⟨rfl,rfl⟩
end
theorem q0m{F:List Tri3}{a:Nat}{X:Tri3}{y:Int}(h:a<F.length):(F.set a X).set a (((F.set a X).getD a (0,(0,0))).1,y,((F.set a X).getD a (0,(0,0))).2.2)=F.set a (X.1,y,X.2.2):=by
 have e:(F.set a X).getD a (0,(0,0))=X:=by rw[List.getD_eq_getElem?_getD,List.getElem?_set_self h];rfl
 rw[e,List.set_set]
theorem SE{x y:Msh}{i:Nat}(hx:Bnd tMsh bMsh x)(hy:Bnd tMsh bMsh y)(hi:i<2):Bnd tMsh bMsh ([x,y].getD i ([],([],[]))):=by
 rcases(by omega:i=0∨i=1)with rfl|rfl
 ·exact hx
 ·exact hy
end
abbrev Y2:FB:=⟨35,(.pr (.sl (.int .i64)) (.nat .i64)),(.p (.s 1048576 (.n 9223372036854775808)) (.n 1048576)),[(.pr (.sl (.pr .rat (.pr .rat .rat))) (.pr (.sl (.pr (.int .i64) (.pr (.int .i64) (.int .i64)))) (.sl (.int .i64))))],[(.p (.s 8 (.p (.n 64) (.p (.n 64) (.n 64)))) (.p (.s 8 (.p (.n 1048576) (.p (.n 1048576) (.n 1048576)))) (.s 8 (.n 1048576))))],fun s z=>(fun(m:(List (Rat×Rat×Rat))×(List (Int×Int×Int))×List Int)=>[Bnd tMsh bMs2 m]) z,fun tb b s z=>(fun(m:(List (Rat×Rat×Rat))×(List (Int×Int×Int))×List Int)=> .c (.agg [.dt tMsh bMsh (oddV s m)])) z,fun s z=>(fun(m:(List (Rat×Rat×Rat))×(List (Int×Int×Int))×List Int)=>oddS s m) z,fun tb b=> .p tb.l (.n (max tb.r.nb tb.l.len))⟩
theorem Y3:Y2.OK Tryz.prog:=mkB' hmix 183 Tryz.func35 rfl rfl (by decide) [(19,.b KL),(24,.b DE)] (fun _=>rfl) (fun _ _=>rfl) (fun _ _ _ _=>rfl) (fun(s:List Int×Nat)(m:(List (Rat×Rat×Rat))×(List (Int×Int×Int))×List Int) tb b hs hx hp=>⟨qP (Je (hp _ List.mem_cons_self)),Zb hs⟩) (fun(s:List Int×Nat)(m:(List (Rat×Rat×Rat))×(List (Int×Int×Int))×List Int) hs hx hp=>by
 have hp0:Bnd tMsh bMs2 m:=hp _ (List.mem_cons_self)
 have hl1:m.1.length≤8:=hp0.1.1
 have hl2:m.2.1.length≤8:=hp0.2.1.1
 have hl3:m.2.2.length≤8:=hp0.2.2.1
 refine⟨.h 1 2 (.mk (.gro (.pr .rat (.pr .rat .rat)) (.p (.n 64) (.p (.n 64) (.n 64))))) (.h 1 5 (.mk (.gro (.pr (.int .i64) (.pr (.int .i64) (.int .i64))) (.p (.n 1048576) (.p (.n 1048576) (.n 1048576))))) (.h 1 8 (.mk (.gro (.int .i64) (.n 1048576))) (.cond (.pre 3 (.frz 10 true []) (.pre 3 (.frz 13 true []) (.pre 3 (.frz 16 true []) (.nil)))) (.cond (.pre 3 (.frz 10 true []) (.pre 3 (.frz 13 true []) (.pre 3 (.frz 16 true []) (.nil)))) (.pre 5 (.ex (toN 6 8 ((q7 s (m.2.1.length:Int)).toNat))) (.cond (.h 7 13 (.ext Y5) (.h 7 14 (.ext Y7) (.pre 25 (.frz 10 true []) (.pre 25 (.frz 13 true []) (.pre 25 (.frz 16 true []) (.nil)))))) (.cond (.pre 25 (.frz 10 true []) (.pre 25 (.frz 13 true []) (.pre 25 (.frz 16 true []) (.nil)))) (.cond (.pre 11 (.frz 13 true []) (.pre 11 (.frz 16 true []) (.h 11 4 (.ext NB) (.h 11 10 (.ext Nz) (.cond (.h 13 4 (.ext NB) (.h 13 10 (.ext Nz) (.pre 25 (.frz 10 true []) (.nil)))) (.pre 25 (.frz 10 true []) (.nil))))))) (.cond (.h 15 9 (.ix ((q7 (q6 (q6 s)) (m.1.length:Int)).toNat)) (.pre 25 (.frz 10 true []) (.pre 25 (.frz 13 true []) (.pre 25 (.frz 16 true []) (.nil))))) (.cond (.h 17 7 (.mk (.im (.pr (.int .i64) (.pr (.int .i64) (.int .i64))) (.p (.n 1048576) (.p (.n 1048576) (.n 1048576))))) (.h 17 11 (.mk (.im (.int .i64) (.n 1048576))) (.pre 25 (.frz 10 true []) (.pre 25 (.frz 129 true []) (.pre 25 (.frz 133 true []) (.nil)))))) (.cond (.cond (.cond (.h 21 5 (.ix ((m.2.1.getD (q7 s (m.2.1.length:Int)).toNat (0,(0,0))).1.toNat)) (.h 21 7 (.mk (.im (.pr .rat (.pr .rat .rat)) (.p (.n 64) (.p (.n 64) (.n 64))))) (.h 22 6 (.i .sub) (.pre 25 (.frz 13 true []) (.pre 25 (.frz 16 true []) (.pre 25 (.frz 161 true []) (.nil))))))) (.pre 25 (.frz 10 true []) (.pre 25 (.frz 13 true []) (.pre 25 (.frz 16 true []) (.nil))))) (.pre 25 (.frz 10 true []) (.pre 25 (.frz 13 true []) (.pre 25 (.frz 16 true []) (.nil))))) (.cond (.pre 24 (.frz 16 true []) (.pre 25 (.frz 10 true []) (.pre 25 (.frz 13 true []) (.nil)))) (.dead))))))))))))),kcast (by kernel_rfl) (Sp (m.2.1.length=0) (fun h1=>I (?_:m.1.length=m.1.length) (I (?_:m.2.1.length=m.2.1.length) (I (?_:m.2.2.length=m.2.2.length) (And.intro ((jr (I5 (.inl h1))).1:s=oddS s m) (((jr (I5 (.inl h1))).2:(m.1,m.2.1,m.2.2)=oddV s m)))))) (fun h2=>Sp (m.1.length=0) (fun h3=>I (?_:m.1.length=m.1.length) (I (?_:m.2.1.length=m.2.1.length) (I (?_:m.2.2.length=m.2.2.length) (And.intro ((jr (I5 (.inr h3))).1:s=oddS s m) (((jr (I5 (.inr h3))).2:(m.1,m.2.1,m.2.2)=oddV s m)))))) (fun h4=>have hA:=(jX s (m:=(m.2.1.length:Int)) (by omega));I (?_:(0:Int)<((m.2.1.length:Nat):Int)) (I (?_:q7 s ((m.2.1.length:Nat):Int)=(((q7 s (m.2.1.length:Int)).toNat:Nat):Int)) (I (?_:(q7 s (m.2.1.length:Int)).toNat≤8) (have hT:=(KS hp0.2.1.2 (q7 s (m.2.1.length:Int)).toNat);I (?_:(0:Int)<7) (have hk7:=(jX (q6 s) (m:=7) (by omega));Sp (q7 (q6 s) 7=0) (fun h5=>have hn3:=(jX (q6 (q6 s)) (m:=3) (by omega));have hn4:=(jX (q6 (q6 (q6 s))) (m:=((m.1.length+2:Nat):Int)) (by omega));I (?_:(0:Int)<3) (I (?_:(0:Int)<((m.1.length+2:Nat):Int)) (I (?_:(q7 s (m.2.1.length:Int)).toNat<m.2.1.length) (I (?_:(0:Int)≤q7 (q6 (q6 s)) 3) (I (?_:q7 (q6 (q6 s)) 3<(3:Int)) (I (?_:(q7 s (m.2.1.length:Int)).toNat<m.2.1.length) (I (?_:(q7 (q6 (q6 s)) 3).toNat<3) (I (Ln hT (by omega):Bnd (.pr (.int .i64) (.pr (.int .i64) (.int .i64))) (.p (.n 1048576) (.p (.n 1048576) (.n 1048576))) (z5 (m.2.1.getD ((q7 s (m.2.1.length:Int)).toNat) (0,(0,0))) ((q7 (q6 (q6 s)) 3).toNat) ((q7 (q6 (q6 (q6 s))) ((m.1.length+2:Nat):Int)) -1))) (I (?_:m.1.length=m.1.length) (I ((by simp only[List.length_set]):m.2.1.length=(m.2.1.set ((q7 s (m.2.1.length:Int)).toNat) (z5 (m.2.1.getD ((q7 s (m.2.1.length:Int)).toNat) (0,(0,0))) ((q7 (q6 (q6 s)) 3).toNat) ((q7 (q6 (q6 (q6 s))) ((m.1.length+2:Nat):Int)) -1))).length) (I (?_:m.2.2.length=m.2.2.length) (And.intro ((jr (SG (not_or.2 ⟨h2,h4⟩) h5)).1:q6 (q6 (q6 (q6 s)))=oddS s m) (((jr (SG (not_or.2 ⟨h2,h4⟩) h5)).2:(m.1,m.2.1.set ((q7 s (m.2.1.length:Int)).toNat) (z5 (m.2.1.getD ((q7 s (m.2.1.length:Int)).toNat) (0,(0,0))) ((q7 (q6 (q6 s)) 3).toNat) ((q7 (q6 (q6 (q6 s))) ((m.1.length+2:Nat):Int)) -1)),m.2.2)=oddV s m)))))))))))))) (fun h6=>Sp (q7 (q6 s) 7=1) (fun h7=>I (?_:(q7 s (m.2.1.length:Int)).toNat<m.2.1.length) (I (?_:(q7 s (m.2.1.length:Int)).toNat<m.2.1.length) (I (?_:(q7 s (m.2.1.length:Int)).toNat<m.2.1.length) (I (?_:(q7 s (m.2.1.length:Int)).toNat<m.2.1.length) (I (?_:(q7 s (m.2.1.length:Int)).toNat<m.2.1.length) (I (?_:(q7 s (m.2.1.length:Int)).toNat<m.2.1.length) (I (?_:(q7 s (m.2.1.length:Int)).toNat<m.2.1.length) (I (by simp only[List.length_set];omega:(q7 s (m.2.1.length:Int)).toNat<(m.2.1.set ((q7 s (m.2.1.length:Int)).toNat) (((m.2.1.getD ((q7 s (m.2.1.length:Int)).toNat) (0,(0,0))).2).1,(m.2.1.getD ((q7 s (m.2.1.length:Int)).toNat) (0,(0,0))).2)).length) (I (?_:m.1.length=m.1.length) (I ((by simp only[List.length_set]):m.2.1.length=((m.2.1.set ((q7 s (m.2.1.length:Int)).toNat) (((m.2.1.getD ((q7 s (m.2.1.length:Int)).toNat) (0,(0,0))).2).1,(m.2.1.getD ((q7 s (m.2.1.length:Int)).toNat) (0,(0,0))).2)).set ((q7 s (m.2.1.length:Int)).toNat) (((m.2.1.set ((q7 s (m.2.1.length:Int)).toNat) (((m.2.1.getD ((q7 s (m.2.1.length:Int)).toNat) (0,(0,0))).2).1,(m.2.1.getD ((q7 s (m.2.1.length:Int)).toNat) (0,(0,0))).2)).getD ((q7 s (m.2.1.length:Int)).toNat) (0,(0,0))).1,(m.2.1.getD ((q7 s (m.2.1.length:Int)).toNat) (0,(0,0))).1,(((m.2.1.set ((q7 s (m.2.1.length:Int)).toNat) (((m.2.1.getD ((q7 s (m.2.1.length:Int)).toNat) (0,(0,0))).2).1,(m.2.1.getD ((q7 s (m.2.1.length:Int)).toNat) (0,(0,0))).2)).getD ((q7 s (m.2.1.length:Int)).toNat) (0,(0,0))).2).2)).length) (I (?_:m.2.2.length=m.2.2.length) (And.intro ((jr (SH (not_or.2 ⟨h2,h4⟩) h7)).1:q6 (q6 s)=oddS s m) (((by rw[q0m (by omega)];exact(jr (SH (not_or.2 ⟨h2,h4⟩) h7)).2):(m.1,(m.2.1.set ((q7 s (m.2.1.length:Int)).toNat) (((m.2.1.getD ((q7 s (m.2.1.length:Int)).toNat) (0,(0,0))).2).1,(m.2.1.getD ((q7 s (m.2.1.length:Int)).toNat) (0,(0,0))).2)).set ((q7 s (m.2.1.length:Int)).toNat) (((m.2.1.set ((q7 s (m.2.1.length:Int)).toNat) (((m.2.1.getD ((q7 s (m.2.1.length:Int)).toNat) (0,(0,0))).2).1,(m.2.1.getD ((q7 s (m.2.1.length:Int)).toNat) (0,(0,0))).2)).getD ((q7 s (m.2.1.length:Int)).toNat) (0,(0,0))).1,(m.2.1.getD ((q7 s (m.2.1.length:Int)).toNat) (0,(0,0))).1,(((m.2.1.set ((q7 s (m.2.1.length:Int)).toNat) (((m.2.1.getD ((q7 s (m.2.1.length:Int)).toNat) (0,(0,0))).2).1,(m.2.1.getD ((q7 s (m.2.1.length:Int)).toNat) (0,(0,0))).2)).getD ((q7 s (m.2.1.length:Int)).toNat) (0,(0,0))).2).2),m.2.2)=oddV s m)))))))))))))) (fun h8=>Sp (q7 (q6 s) 7=2) (fun h9=>I (?_:m.2.1.length=m.2.1.length) (I (?_:m.2.2.length=m.2.2.length) (I (?_:(q7 s (m.2.1.length:Int)).toNat≤m.2.1.length) (I (?_:(q7 s (m.2.1.length:Int)).toNat=(q7 s (m.2.1.length:Int)).toNat) (I (?_:((q7 s (m.2.1.length:Int)).toNat)+1≤m.2.1.length) (Sp ((q7 s (m.2.1.length:Int)).toNat<m.2.2.length) (fun h10=>I (?_:(q7 s (m.2.1.length:Int)).toNat≤m.2.2.length) (I (?_:(q7 s (m.2.1.length:Int)).toNat=(q7 s (m.2.1.length:Int)).toNat) (I (?_:((q7 s (m.2.1.length:Int)).toNat)+1≤m.2.2.length) (I (?_:m.1.length=m.1.length) (And.intro ((jr (SI (not_or.2 ⟨h2,h4⟩) h9 h10)).1:q6 (q6 s)=oddS s m) (((jr (SI (not_or.2 ⟨h2,h4⟩) h9 h10)).2:(m.1,(m.2.1.take ((q7 s (m.2.1.length:Int)).toNat))++(m.2.1.drop (((q7 s (m.2.1.length:Int)).toNat)+1)),(m.2.2.take ((q7 s (m.2.1.length:Int)).toNat))++(m.2.2.drop (((q7 s (m.2.1.length:Int)).toNat)+1)))=oddV s m))))))) (fun h11=>I (?_:m.1.length=m.1.length) (And.intro ((jr (Oo (not_or.2 ⟨h2,h4⟩) h9 h11)).1:q6 (q6 s)=oddS s m) (((jr (Oo (not_or.2 ⟨h2,h4⟩) h9 h11)).2:(m.1,(m.2.1.take ((q7 s (m.2.1.length:Int)).toNat))++(m.2.1.drop (((q7 s (m.2.1.length:Int)).toNat)+1)),m.2.2)=oddV s m)))))))))) (fun h12=>Sp (q7 (q6 s) 7=3) (fun h13=>have hnp:=(jX (q6 (q6 s)) (m:=(m.1.length:Int)) (by omega));I (?_:(0:Int)<((m.1.length:Nat):Int)) (I (?_:q7 (q6 (q6 s)) ((m.1.length:Nat):Int)=(((q7 (q6 (q6 s)) (m.1.length:Int)).toNat:Nat):Int)) (I (?_:(q7 (q6 (q6 s)) (m.1.length:Int)).toNat<m.1.length) (I (?_:(q7 (q6 (q6 s)) (m.1.length:Int)).toNat<m.1.length) (I ((by simp only[List.length_set]):m.1.length=(m.1.set ((q7 (q6 (q6 s)) (m.1.length:Int)).toNat) (j8 (q6 (q6 (q6 s))))).length) (I (?_:m.2.1.length=m.2.1.length) (I (?_:m.2.2.length=m.2.2.length) (And.intro ((jr (SJ (not_or.2 ⟨h2,h4⟩) h13)).1:j7 (q6 (q6 (q6 s)))=oddS s m) (((jr (SJ (not_or.2 ⟨h2,h4⟩) h13)).2:(m.1.set ((q7 (q6 (q6 s)) (m.1.length:Int)).toNat) (j8 (q6 (q6 (q6 s)))),m.2.1,m.2.2)=oddV s m)))))))))) (fun h14=>Sp (q7 (q6 s) 7=4) (fun h15=>I (?_:(q7 s (m.2.1.length:Int)).toNat<m.2.1.length) (I (?_:(q7 s (m.2.1.length:Int)).toNat<m.2.1.length) (I (?_:m.2.1.length=m.2.1.length) (I (?_:m.2.2.length=m.2.2.length) (I (?_:m.1.length=m.1.length) (I (by(try simp only[List.length_append,List.length_cons,List.length_nil])<;>omega:m.2.1.length+[m.2.1.getD ((q7 s (m.2.1.length:Int)).toNat) (0,(0,0))].length=(m.2.1++[m.2.1.getD ((q7 s (m.2.1.length:Int)).toNat) (0,(0,0))]).length) (I (by(try simp only[List.length_append,List.length_cons,List.length_nil])<;>omega:m.2.2.length+[1].length=(m.2.2++[1]).length) (And.intro ((jr (SK (not_or.2 ⟨h2,h4⟩) h15)).1:q6 (q6 s)=oddS s m) (((jr (SK (not_or.2 ⟨h2,h4⟩) h15)).2:(m.1,m.2.1++[m.2.1.getD ((q7 s (m.2.1.length:Int)).toNat) (0,(0,0))],m.2.2++[1])=oddV s m)))))))))) (fun h16=>Sp (q7 (q6 s) 7=5) (fun h17=>I (?_:(q7 s (m.2.1.length:Int)).toNat<m.2.1.length) (I (?_:(q7 s (m.2.1.length:Int)).toNat<m.2.1.length) (Sp (0≤(m.2.1.getD ((q7 s (m.2.1.length:Int)).toNat) (0,(0,0))).1) (fun h18=>Sp ((m.2.1.getD ((q7 s (m.2.1.length:Int)).toNat) (0,(0,0))).1<((m.1.length:Nat):Int)) (fun h19=>I (?_:(m.2.1.getD ((q7 s (m.2.1.length:Int)).toNat) (0,(0,0))).1=(((m.2.1.getD (q7 s (m.2.1.length:Int)).toNat (0,(0,0))).1.toNat:Nat):Int)) (I (?_:(m.2.1.getD (q7 s (m.2.1.length:Int)).toNat (0,(0,0))).1.toNat<m.1.length) (I (?_:(m.2.1.getD (q7 s (m.2.1.length:Int)).toNat (0,(0,0))).1.toNat<m.1.length) (I (?_:m.1.length=m.1.length) (I (by(try simp only[List.length_append,List.length_cons,List.length_nil])<;>omega:1≤m.1.length+[m.1.getD ((m.2.1.getD (q7 s (m.2.1.length:Int)).toNat (0,(0,0))).1.toNat) (0,(0,0))].length) (I (?_:(q7 s (m.2.1.length:Int)).toNat<m.2.1.length) (I (?_:(q7 s (m.2.1.length:Int)).toNat<m.2.1.length) (I ((by simp only[List.length_set]):m.2.1.length=(m.2.1.set ((q7 s (m.2.1.length:Int)).toNat) ((((m.1.length+[m.1.getD ((m.2.1.getD (q7 s (m.2.1.length:Int)).toNat (0,(0,0))).1.toNat) (0,(0,0))].length) -1:Nat):Int),(m.2.1.getD ((q7 s (m.2.1.length:Int)).toNat) (0,(0,0))).2)).length) (I (?_:m.2.2.length=m.2.2.length) (I (by(try simp only[List.length_append,List.length_cons,List.length_nil])<;>omega:m.1.length+[m.1.getD ((m.2.1.getD (q7 s (m.2.1.length:Int)).toNat (0,(0,0))).1.toNat) (0,(0,0))].length=(m.1++[m.1.getD ((m.2.1.getD (q7 s (m.2.1.length:Int)).toNat (0,(0,0))).1.toNat) (0,(0,0))]).length) (And.intro ((jr (SL (not_or.2 ⟨h2,h4⟩) h17 h18 h19)).1:q6 (q6 s)=oddS s m) (((by simp only[List.length_cons,List.length_nil,Nat.zero_add,Nat.add_sub_cancel];exact(jr (SL (not_or.2 ⟨h2,h4⟩) h17 h18 h19)).2):(m.1++[m.1.getD ((m.2.1.getD (q7 s (m.2.1.length:Int)).toNat (0,(0,0))).1.toNat) (0,(0,0))],m.2.1.set ((q7 s (m.2.1.length:Int)).toNat) ((((m.1.length+[m.1.getD ((m.2.1.getD (q7 s (m.2.1.length:Int)).toNat (0,(0,0))).1.toNat) (0,(0,0))].length) -1:Nat):Int),(m.2.1.getD ((q7 s (m.2.1.length:Int)).toNat) (0,(0,0))).2),m.2.2)=oddV s m))))))))))))) (fun h20=>I (?_:m.1.length=m.1.length) (I (?_:m.2.1.length=m.2.1.length) (I (?_:m.2.2.length=m.2.2.length) (And.intro ((jr (FC (not_or.2 ⟨h2,h4⟩) h17 (fun g=>h20 g.2))).1:q6 (q6 s)=oddS s m) (((jr (FC (not_or.2 ⟨h2,h4⟩) h17 (fun g=>h20 g.2))).2:(m.1,m.2.1,m.2.2)=oddV s m))))))) (fun h21=>I (?_:m.1.length=m.1.length) (I (?_:m.2.1.length=m.2.1.length) (I (?_:m.2.2.length=m.2.2.length) (And.intro ((jr (FC (not_or.2 ⟨h2,h4⟩) h17 (fun g=>h21 g.1))).1:q6 (q6 s)=oddS s m) (((jr (FC (not_or.2 ⟨h2,h4⟩) h17 (fun g=>h21 g.1))).2:(m.1,m.2.1,m.2.2)=oddV s m))))))))) (fun h22=>Sp (q7 (q6 s) 7=6) (fun h23=>I (?_:m.2.2.length=m.2.2.length) (I (?_:min 1 m.2.2.length≤m.2.2.length) (I (?_:m.1.length=m.1.length) (I (?_:m.2.1.length=m.2.1.length) (And.intro ((jr (SM (not_or.2 ⟨h2,h4⟩) h23)).1:q6 (q6 s)=oddS s m) (((jr (SM (not_or.2 ⟨h2,h4⟩) h23)).2:(m.1,m.2.1,m.2.2.drop (min 1 m.2.2.length))=oddV s m))))))) (fun h24=>(?_:False)))))))))))))))⟩<;>omega)
abbrev Y1:CtrB Tryz.prog:=FB.c Y3
abbrev YY:FI:=⟨230,[(.pr .rat (.pr .rat .rat)),(.pt (.pr .rat (.pr .rat .rat)))],[(.p (.n 64) (.p (.n 64) (.n 64))),(.p (.n 64) (.p (.n 64) (.n 64)))],fun _=>[],fun b z=>(fun(p:Rat×Rat×Rat)(c:Rat×Rat×Rat)=> .c (.one (.dt .bool .u (decide (c=p))))) z.1 z.2⟩
theorem YZ:YY.OK Tryz.prog:=mkF hmix 7 Tryz.func230 rfl rfl (by decide) [(210,.c Cu)] (fun(p:Rat×Rat×Rat)(c:Rat×Rat×Rat) b hx hp=>qa trivial rfl) (fun(p:Rat×Rat×Rat)(c:Rat×Rat×Rat) hx hp=>by
 refine⟨.h 1 0 (.ext IO) (.nil),kcast (by kernel_rfl) ((Eq.refl (decide (c=p))))⟩)
abbrev YX:Ctr Tryz.prog:=FI.c YZ
abbrev Z1:FI:=⟨232,[(.pr .rat (.pr .rat .rat)),(.pt (.pr .rat (.pr .rat .rat)))],[(.p (.n 64) (.p (.n 64) (.n 64))),(.p (.n 65536) (.p (.n 65536) (.n 65536)))],fun _=>[],fun b z=>(fun(p:Rat×Rat×Rat)(c:Rat×Rat×Rat)=> .c (.one (.dt .bool .u (decide (c=p))))) z.1 z.2⟩
theorem Z2:Z1.OK Tryz.prog:=mkF hmix 7 Tryz.func232 rfl rfl (by decide) [(210,.c Cu)] (fun(p:Rat×Rat×Rat)(c:Rat×Rat×Rat) b hx hp=>qa trivial rfl) (fun(p:Rat×Rat×Rat)(c:Rat×Rat×Rat) hx hp=>by
 refine⟨.h 1 0 (.ext IO) (.nil),kcast (by kernel_rfl) ((Eq.refl (decide (c=p))))⟩)
abbrev Z0:Ctr Tryz.prog:=FI.c Z2
abbrev V4:FI:=⟨231,[(.sl (.pr .rat (.pr .rat .rat))),(.cl 230 (.pr .rat (.pr .rat .rat)))],[(.s 64 (.p (.n 64) (.p (.n 64) (.n 64)))),(.p (.n 64) (.p (.n 64) (.n 64)))],fun _=>[],fun b z=>(fun(l:List (Rat×Rat×Rat))(u:Rat×Rat×Rat)=> .c (.one (.dt (.int .i64) (.n ((b0 b).len+1)) (fidx (fun j=>decide (u=(l.getD j (0,(0,0))))) 0 l.length)))) z.1 z.2⟩
theorem V5:V4.OK Tryz.prog:=mkF hmix 19 Tryz.func231 rfl rfl (by decide) [] (fun(l:List (Rat×Rat×Rat))(u:Rat×Rat×Rat) b hx hp=>qa (show Int.natAbs (fidx (fun j=>decide (u=(l.getD j (0,(0,0))))) 0 l.length)≤(b0 b).len+1 from by have h1:=Fo (fun j=>decide (u=(l.getD j (0,(0,0))))) l.length 0;have h2:=(Bnds.h2 hx).1.sl.1;omega) rfl) (fun(l:List (Rat×Rat×Rat))(u:Rat×Rat×Rat) hx hp=>by
 have hl0:l.length≤64:=hx.1.1
 refine⟨.loop [.s 8 (.nat .i64) (.n 8388608)] (fun(i:Nat)=>fidx (fun j=>decide (u=(l.getD j (0,(0,0))))) i (l.length-i)=fidx (fun j=>decide (u=(l.getD j (0,(0,0))))) 0 l.length∧i≤l.length) (fun(i:Nat)=>l.length-i) (fun(i:Nat)=> .cond (.h 4 5 (.ext (IM YX)) (.nil)) (.nil)),kcast (by kernel_rfl) (I (⟨rfl,Nat.zero_le _⟩:fidx (fun j=>decide (u=(l.getD j (0,(0,0))))) 0 (l.length-0)=fidx (fun j=>decide (u=(l.getD j (0,(0,0))))) 0 l.length∧0≤l.length) (fun(i:Nat)(hb1:HB [.s 8 (.nat .i64) (.n 8388608)] i)(hI:fidx (fun j=>decide (u=(l.getD j (0,(0,0))))) i (l.length-i)=fidx (fun j=>decide (u=(l.getD j (0,(0,0))))) 0 l.length∧i≤l.length)=>have hv6:=(show i≤8388608 from hb1);have hIi:=hI.2;Sp (i<l.length) (fun h2=>I (?_:i<l.length) (Sp (decide (u=(l.getD i (0,(0,0))))=true) (fun h3=>(EC hI.1 (by omega) (show decide (u=(l.getD i (0,(0,0))))=true from h3):(i:Int)=fidx (fun j=>decide (u=(l.getD j (0,(0,0))))) 0 l.length)) (fun h4=>I (show(i+1)≤8388608 by omega:Bnd (.nat .i64) (.n 8388608) (i+1)) (And.intro (⟨Gp hI.1 (by omega) (show¬decide (u=(l.getD i (0,(0,0))))=true from h4),by omega⟩:fidx (fun j=>decide (u=(l.getD j (0,(0,0))))) (i+1) (l.length-(i+1))=fidx (fun j=>decide (u=(l.getD j (0,(0,0))))) 0 l.length∧(i+1)≤l.length) (?_:l.length-(i+1)<l.length-i))))) (fun h5=>(EB hI.1 (by omega):(-1)=fidx (fun j=>decide (u=(l.getD j (0,(0,0))))) 0 l.length))))⟩<;>omega)
abbrev V2:Ctr Tryz.prog:=FI.c V5
abbrev V0:FI:=⟨157,[(.sl (.pr .rat (.pr .rat .rat))),(.cl 230 (.pr .rat (.pr .rat .rat)))],[(.s 64 (.p (.n 64) (.p (.n 64) (.n 64)))),(.p (.n 64) (.p (.n 64) (.n 64)))],fun _=>[],fun b z=>(fun(l:List (Rat×Rat×Rat))(u:Rat×Rat×Rat)=> .c (.one (.dt .bool .u (decide (0≤fidx (fun j=>decide (u=(l.getD j (0,(0,0))))) 0 l.length))))) z.1 z.2⟩
theorem V1:V0.OK Tryz.prog:=mkF hmix 9 Tryz.func157 rfl rfl (by decide) [(231,.c V2)] (fun(l:List (Rat×Rat×Rat))(u:Rat×Rat×Rat) b hx hp=>qa trivial rfl) (fun(l:List (Rat×Rat×Rat))(u:Rat×Rat×Rat) hx hp=>by
 refine⟨.nil,kcast (by kernel_rfl) ((Eq.refl (decide (0≤fidx (fun j=>decide (u=(l.getD j (0,(0,0))))) 0 l.length))))⟩)
abbrev UZ:Ctr Tryz.prog:=FI.c V1
abbrev Vg:FI:=⟨231,[(.sl (.pr .rat (.pr .rat .rat))),(.cl 232 (.pr .rat (.pr .rat .rat)))],[(.s 64 (.p (.n 64) (.p (.n 64) (.n 64)))),(.p (.n 65536) (.p (.n 65536) (.n 65536)))],fun _=>[],fun b z=>(fun(l:List (Rat×Rat×Rat))(u:Rat×Rat×Rat)=> .c (.one (.dt (.int .i64) (.n ((b0 b).len+1)) (fidx (fun j=>decide (u=(l.getD j (0,(0,0))))) 0 l.length)))) z.1 z.2⟩
theorem Vh:Vg.OK Tryz.prog:=mkF hmix 19 Tryz.func231 rfl rfl (by decide) [] (fun(l:List (Rat×Rat×Rat))(u:Rat×Rat×Rat) b hx hp=>qa (show Int.natAbs (fidx (fun j=>decide (u=(l.getD j (0,(0,0))))) 0 l.length)≤(b0 b).len+1 from by have h1:=Fo (fun j=>decide (u=(l.getD j (0,(0,0))))) l.length 0;have h2:=(Bnds.h2 hx).1.sl.1;omega) rfl) (fun(l:List (Rat×Rat×Rat))(u:Rat×Rat×Rat) hx hp=>by
 have hl0:l.length≤64:=hx.1.1
 refine⟨.loop [.s 8 (.nat .i64) (.n 8388608)] (fun(i:Nat)=>fidx (fun j=>decide (u=(l.getD j (0,(0,0))))) i (l.length-i)=fidx (fun j=>decide (u=(l.getD j (0,(0,0))))) 0 l.length∧i≤l.length) (fun(i:Nat)=>l.length-i) (fun(i:Nat)=> .cond (.h 4 5 (.ext (IM Z0)) (.nil)) (.nil)),kcast (by kernel_rfl) (I (⟨rfl,Nat.zero_le _⟩:fidx (fun j=>decide (u=(l.getD j (0,(0,0))))) 0 (l.length-0)=fidx (fun j=>decide (u=(l.getD j (0,(0,0))))) 0 l.length∧0≤l.length) (fun(i:Nat)(hb1:HB [.s 8 (.nat .i64) (.n 8388608)] i)(hI:fidx (fun j=>decide (u=(l.getD j (0,(0,0))))) i (l.length-i)=fidx (fun j=>decide (u=(l.getD j (0,(0,0))))) 0 l.length∧i≤l.length)=>have hv6:=(show i≤8388608 from hb1);have hIi:=hI.2;Sp (i<l.length) (fun h2=>I (?_:i<l.length) (Sp (decide (u=(l.getD i (0,(0,0))))=true) (fun h3=>(EC hI.1 (by omega) (show decide (u=(l.getD i (0,(0,0))))=true from h3):(i:Int)=fidx (fun j=>decide (u=(l.getD j (0,(0,0))))) 0 l.length)) (fun h4=>I (show(i+1)≤8388608 by omega:Bnd (.nat .i64) (.n 8388608) (i+1)) (And.intro (⟨Gp hI.1 (by omega) (show¬decide (u=(l.getD i (0,(0,0))))=true from h4),by omega⟩:fidx (fun j=>decide (u=(l.getD j (0,(0,0))))) (i+1) (l.length-(i+1))=fidx (fun j=>decide (u=(l.getD j (0,(0,0))))) 0 l.length∧(i+1)≤l.length) (?_:l.length-(i+1)<l.length-i))))) (fun h5=>(EB hI.1 (by omega):(-1)=fidx (fun j=>decide (u=(l.getD j (0,(0,0))))) 0 l.length))))⟩<;>omega)
abbrev Vf:Ctr Tryz.prog:=FI.c Vh
abbrev Vd:FI:=⟨157,[(.sl (.pr .rat (.pr .rat .rat))),(.cl 232 (.pr .rat (.pr .rat .rat)))],[(.s 64 (.p (.n 64) (.p (.n 64) (.n 64)))),(.p (.n 65536) (.p (.n 65536) (.n 65536)))],fun _=>[],fun b z=>(fun(l:List (Rat×Rat×Rat))(u:Rat×Rat×Rat)=> .c (.one (.dt .bool .u (decide (0≤fidx (fun j=>decide (u=(l.getD j (0,(0,0))))) 0 l.length))))) z.1 z.2⟩
theorem Ve:Vd.OK Tryz.prog:=mkF hmix 9 Tryz.func157 rfl rfl (by decide) [] (fun(l:List (Rat×Rat×Rat))(u:Rat×Rat×Rat) b hx hp=>qa trivial rfl) (fun(l:List (Rat×Rat×Rat))(u:Rat×Rat×Rat) hx hp=>by
 refine⟨.h 1 2 (.c Vf) (.nil),kcast (by kernel_rfl) ((Eq.refl (decide (0≤fidx (fun j=>decide (u=(l.getD j (0,(0,0))))) 0 l.length))))⟩)
abbrev Vc:Ctr Tryz.prog:=FI.c Ve
abbrev UX:FI:=⟨156,[(.pr (.pr .rat (.pr .rat .rat)) (.pr (.pr .rat (.pr .rat .rat)) (.pr .rat (.pr .rat .rat)))),(.pr (.pr .rat (.pr .rat .rat)) (.pr (.pr .rat (.pr .rat .rat)) (.pr .rat (.pr .rat .rat))))],[(.p (.p (.n 64) (.p (.n 64) (.n 64))) (.p (.p (.n 64) (.p (.n 64) (.n 64))) (.p (.n 64) (.p (.n 64) (.n 64))))),(.p (.p (.n 64) (.p (.n 64) (.n 64))) (.p (.p (.n 64) (.p (.n 64) (.n 64))) (.p (.n 64) (.p (.n 64) (.n 64)))))],fun z=>(fun(a:(Rat×Rat×Rat)×(Rat×Rat×Rat)×Rat×Rat×Rat)(b_:(Rat×Rat×Rat)×(Rat×Rat×Rat)×Rat×Rat×Rat)=>[Bnd tT3 (bT3 64) a,Bnd tT3 (bT3 64) b_]) z.1 z.2,fun b z=>(fun(a:(Rat×Rat×Rat)×(Rat×Rat×Rat)×Rat×Rat×Rat)(b_:(Rat×Rat×Rat)×(Rat×Rat×Rat)×Rat×Rat×Rat)=> .c (.one (.dt (.sl tV3) (.s 64 (bV3 64)) (shP a b_)))) z.1 z.2⟩
theorem UY:UX.OK Tryz.prog:=mkF hmix 21 Tryz.func156 rfl rfl (by decide) [(157,.c UZ)] (fun(a:(Rat×Rat×Rat)×(Rat×Rat×Rat)×Rat×Rat×Rat)(b_:(Rat×Rat×Rat)×(Rat×Rat×Rat)×Rat×Rat×Rat) b hx hp=>qa ⟨Nat.le_trans (Ls _ _) (by decide),q29 (hp _ List.mem_cons_self)⟩ rfl) (fun(a:(Rat×Rat×Rat)×(Rat×Rat×Rat)×Rat×Rat×Rat)(b_:(Rat×Rat×Rat)×(Rat×Rat×Rat)×Rat×Rat×Rat) hx hp=>by
 refine⟨.pre 1 (.ex (frzP 3 (.pr (.pr .rat (.pr .rat .rat)) (.pr (.pr .rat (.pr .rat .rat)) (.pr .rat (.pr .rat .rat)))) (.p (.p (.n 64) (.p (.n 64) (.n 64))) (.p (.p (.n 64) (.p (.n 64) (.n 64))) (.p (.n 64) (.p (.n 64) (.n 64))))) [3])) (.pre 5 (.ex (frzP 7 (.pr .rat (.pr .rat .rat)) (.p (.n 64) (.p (.n 64) (.n 64))) [7])) (.h 5 0 (.ext (vu (.pr .rat (.pr .rat .rat)) (.p (.n 64) (.p (.n 64) (.n 64))))) (.h 5 1 (.ext zZ) (.cond (.h 6 2 (.mk (.im (.pr .rat (.pr .rat .rat)) (.p (.n 64) (.p (.n 64) (.n 64))))) (.h 6 3 (.mk (.gro (.pr .rat (.pr .rat .rat)) (.p (.n 64) (.p (.n 64) (.n 64))))) (.pre 5 (.ex (frzP 7 (.pr .rat (.pr .rat .rat)) (.p (.n 64) (.p (.n 64) (.n 64))) [7])) (.h 5 0 (.ext (vu (.pr .rat (.pr .rat .rat)) (.p (.n 64) (.p (.n 64) (.n 64))))) (.h 5 1 (.ext zZ) (.cond (.h 6 2 (.mk (.im (.pr .rat (.pr .rat .rat)) (.p (.n 64) (.p (.n 64) (.n 64))))) (.h 6 3 (.to (.gro (.pr .rat (.pr .rat .rat)) (.p (.n 64) (.p (.n 64) (.n 64)))) 90010) (.pre 5 (.ex (frzP 7 (.pr .rat (.pr .rat .rat)) (.p (.n 64) (.p (.n 64) (.n 64))) [7])) (.h 5 0 (.ext (vu (.pr .rat (.pr .rat .rat)) (.p (.n 64) (.p (.n 64) (.n 64))))) (.h 5 1 (.ext zZ) (.cond (.h 6 2 (.mk (.im (.pr .rat (.pr .rat .rat)) (.p (.n 64) (.p (.n 64) (.n 64))))) (.pre 999999 (.frz 18 true [4]) (.nil))) (.pre 999999 (.frz 90010 true [4]) (.nil)))))))) (.pre 5 (.ex (frzP 7 (.pr .rat (.pr .rat .rat)) (.p (.n 64) (.p (.n 64) (.n 64))) [7])) (.h 5 0 (.ext (vu (.pr .rat (.pr .rat .rat)) (.p (.n 64) (.p (.n 64) (.n 64))))) (.h 5 1 (.ext zZ) (.cond (.h 6 2 (.mk (.im (.pr .rat (.pr .rat .rat)) (.p (.n 64) (.p (.n 64) (.n 64))))) (.h 6 3 (.to (.gro (.pr .rat (.pr .rat .rat)) (.p (.n 64) (.p (.n 64) (.n 64)))) 90010) (.pre 999999 (.frz 90010 true [4]) (.nil)))) (.pre 999999 (.frz 18 true [4]) (.nil)))))))))))) (.pre 5 (.ex (frzP 7 (.pr .rat (.pr .rat .rat)) (.p (.n 64) (.p (.n 64) (.n 64))) [7])) (.h 5 0 (.ext (vu (.pr .rat (.pr .rat .rat)) (.p (.n 64) (.p (.n 64) (.n 64))))) (.h 5 1 (.ext zZ) (.cond (.h 6 2 (.mk (.im (.pr .rat (.pr .rat .rat)) (.p (.n 64) (.p (.n 64) (.n 64))))) (.h 6 3 (.mk (.gro (.pr .rat (.pr .rat .rat)) (.p (.n 64) (.p (.n 64) (.n 64))))) (.pre 5 (.ex (frzP 7 (.pr .rat (.pr .rat .rat)) (.p (.n 64) (.p (.n 64) (.n 64))) [7])) (.h 5 0 (.ext (vu (.pr .rat (.pr .rat .rat)) (.p (.n 64) (.p (.n 64) (.n 64))))) (.h 5 1 (.ext zZ) (.cond (.h 6 2 (.mk (.im (.pr .rat (.pr .rat .rat)) (.p (.n 64) (.p (.n 64) (.n 64))))) (.h 6 3 (.to (.gro (.pr .rat (.pr .rat .rat)) (.p (.n 64) (.p (.n 64) (.n 64)))) 90010) (.pre 999999 (.frz 90010 true [4]) (.nil)))) (.pre 999999 (.frz 18 true [4]) (.nil)))))))) (.pre 5 (.ex (frzP 7 (.pr .rat (.pr .rat .rat)) (.p (.n 64) (.p (.n 64) (.n 64))) [7])) (.h 5 0 (.ext (vu (.pr .rat (.pr .rat .rat)) (.p (.n 64) (.p (.n 64) (.n 64))))) (.h 5 1 (.ext zZ) (.cond (.h 6 2 (.mk (.im (.pr .rat (.pr .rat .rat)) (.p (.n 64) (.p (.n 64) (.n 64))))) (.h 6 3 (.mk (.gro (.pr .rat (.pr .rat .rat)) (.p (.n 64) (.p (.n 64) (.n 64))))) (.pre 999999 (.frz 18 true [4]) (.nil)))) (.nil))))))))))))),kcast (by kernel_rfl) (Sp (decide (0≤fidx (fun j=>decide (a.1=([b_.1,b_.2.1,b_.2.2].getD j (0,(0,0))))) 0 [b_.1,b_.2.1,b_.2.2].length)=true) (fun h1=>Sp (decide (0≤fidx (fun j=>decide (a.2.1=([b_.1,b_.2.1,b_.2.2].getD j (0,(0,0))))) 0 [b_.1,b_.2.1,b_.2.2].length)=true) (fun h2=>I (by(try simp only[List.length_append,List.length_cons,List.length_nil])<;>omega:[a.1].length=[a.1].length) (Sp (decide (0≤fidx (fun j=>decide (a.2.2=([b_.1,b_.2.1,b_.2.2].getD j (0,(0,0))))) 0 [b_.1,b_.2.1,b_.2.2].length)=true) (fun h3=>I (by(try simp only[List.length_append,List.length_cons,List.length_nil])<;>omega:([a.1].length)+[a.2.1].length=([a.1]++[a.2.1]).length) (I (by(try simp only[List.length_append,List.length_cons,List.length_nil])<;>omega:(([a.1].length)+[a.2.1].length)+[a.2.2].length=(([a.1]++[a.2.1])++[a.2.2]).length) ((AY (zE h1) (zE h2) (zE h3):([a.1]++[a.2.1])++[a.2.2]=shP a b_)))) (fun h4=>I (by(try simp only[List.length_append,List.length_cons,List.length_nil])<;>omega:([a.1].length)+[a.2.1].length=([a.1]++[a.2.1]).length) ((AY (zE h1) (zE h2) (zD h4):[a.1]++[a.2.1]=shP a b_))))) (fun h5=>Sp (decide (0≤fidx (fun j=>decide (a.2.2=([b_.1,b_.2.1,b_.2.2].getD j (0,(0,0))))) 0 [b_.1,b_.2.1,b_.2.2].length)=true) (fun h6=>I (by(try simp only[List.length_append,List.length_cons,List.length_nil])<;>omega:[a.1].length=[a.1].length) (I (by(try simp only[List.length_append,List.length_cons,List.length_nil])<;>omega:([a.1].length)+[a.2.2].length=([a.1]++[a.2.2]).length) ((AY (zE h1) (zD h5) (zE h6):[a.1]++[a.2.2]=shP a b_)))) (fun h7=>I (by(try simp only[List.length_append,List.length_cons,List.length_nil])<;>omega:[a.1].length=[a.1].length) ((AY (zE h1) (zD h5) (zD h7):[a.1]=shP a b_))))) (fun h8=>Sp (decide (0≤fidx (fun j=>decide (a.2.1=([b_.1,b_.2.1,b_.2.2].getD j (0,(0,0))))) 0 [b_.1,b_.2.1,b_.2.2].length)=true) (fun h9=>Sp (decide (0≤fidx (fun j=>decide (a.2.2=([b_.1,b_.2.1,b_.2.2].getD j (0,(0,0))))) 0 [b_.1,b_.2.1,b_.2.2].length)=true) (fun h10=>I (by(try simp only[List.length_append,List.length_cons,List.length_nil])<;>omega:[a.2.1].length=[a.2.1].length) (I (by(try simp only[List.length_append,List.length_cons,List.length_nil])<;>omega:([a.2.1].length)+[a.2.2].length=([a.2.1]++[a.2.2]).length) ((AY (zD h8) (zE h9) (zE h10):[a.2.1]++[a.2.2]=shP a b_)))) (fun h11=>I (by(try simp only[List.length_append,List.length_cons,List.length_nil])<;>omega:[a.2.1].length=[a.2.1].length) ((AY (zD h8) (zE h9) (zD h11):[a.2.1]=shP a b_)))) (fun h12=>Sp (decide (0≤fidx (fun j=>decide (a.2.2=([b_.1,b_.2.1,b_.2.2].getD j (0,(0,0))))) 0 [b_.1,b_.2.1,b_.2.2].length)=true) (fun h13=>I (by(try simp only[List.length_append,List.length_cons,List.length_nil])<;>omega:[a.2.2].length=[a.2.2].length) ((AY (zD h8) (zD h12) (zE h13):[a.2.2]=shP a b_))) (fun h14=>(AY (zD h8) (zD h12) (zD h14):[]=shP a b_)))))⟩)
abbrev UW:Ctr Tryz.prog:=FI.c UY
abbrev V7:FI:=⟨159,[(.sl (.pr .rat (.pr .rat .rat))),(.pr .rat (.pr .rat .rat))],[(.s 64 (.p (.n 64) (.p (.n 64) (.n 64)))),(.p (.n 65536) (.p (.n 65536) (.n 65536)))],fun _=>[],fun b z=>(fun(l:List (Rat×Rat×Rat))(p:Rat×Rat×Rat)=> .c (.one (.dt .bool .u (decide (spP l p))))) z.1 z.2⟩
theorem V8:V7.OK Tryz.prog:=mkF hmix 26 Tryz.func159 rfl rfl (by decide) [(202,.c NW)] (fun(l:List (Rat×Rat×Rat))(p:Rat×Rat×Rat) b hx hp=>qa trivial rfl) (fun(l:List (Rat×Rat×Rat))(p:Rat×Rat×Rat) hx hp=>by
 have hl0:l.length≤64:=hx.1.1
 refine⟨.pre 1 (.ex (frzP 3 (.pr .rat (.pr .rat .rat)) (.p (.n 65536) (.p (.n 65536) (.n 65536))) [3])) (.cond (.nil) (.h 1 5 (.ext zZ) (.h 1 6 (.c Vc) (.nil)))),kcast (by kernel_rfl) (Sp (l.length=3) (fun h1=>(sp_1 h1:true=decide (spP l p))) (fun h2=>Sp (decide (0≤fidx (fun j=>decide (p=(l.getD j (0,(0,0))))) 0 l.length)=true) (fun h3=>(sp_2 h3:true=decide (spP l p))) (fun h4=>Sp (l.length=2) (fun h5=>I (?_:0<l.length) (I (?_:1<l.length) ((sp_3 h2 h4 h5:decide (insQ (l.getD 0 (0,(0,0))) (l.getD 1 (0,(0,0))) p)=decide (spP l p))))) (fun h6=>(sp_4 h2 h4 h6:false=decide (spP l p))))))⟩<;>omega)
abbrev V6:Ctr Tryz.prog:=FI.c V8
abbrev YP:FI:=⟨158,[(.pr .rat (.pr .rat .rat)),(.pt (.sl (.pr .rat (.pr .rat .rat))))],[(.p (.n 65536) (.p (.n 65536) (.n 65536))),(.s 64 (.p (.n 64) (.p (.n 64) (.n 64))))],fun _=>[],fun b z=>(fun(p:Rat×Rat×Rat)(c:List (Rat×Rat×Rat))=> .c (.one (.dt .bool .u (!decide (spP c p))))) z.1 z.2⟩
theorem YQ:YP.OK Tryz.prog:=mkF hmix 8 Tryz.func158 rfl rfl (by decide) [(159,.c V6)] (fun(p:Rat×Rat×Rat)(c:List (Rat×Rat×Rat)) b hx hp=>qa trivial rfl) (fun(p:Rat×Rat×Rat)(c:List (Rat×Rat×Rat)) hx hp=>by
 refine⟨.h 1 0 (.ext IO) (.nil),kcast (by kernel_rfl) ((rfl:(!(decide (spP c p)))=(!decide (spP c p))))⟩)
abbrev YO:Ctr Tryz.prog:=FI.c YQ
abbrev UP:FI:=⟨231,[(.sl (.pr .rat (.pr .rat .rat))),(.cl 158 (.sl (.pr .rat (.pr .rat .rat))))],[(.s 96 (.p (.n 41000) (.p (.n 41000) (.n 41000)))),(.s 64 (.p (.n 64) (.p (.n 64) (.n 64))))],fun _=>[],fun b z=>(fun(l:List (Rat×Rat×Rat))(u:List (Rat×Rat×Rat))=> .c (.one (.dt (.int .i64) (.n ((b0 b).len+1)) (fidx (fun j=>(!decide (spP u (l.getD j (0,(0,0)))))) 0 l.length)))) z.1 z.2⟩
theorem UQ:UP.OK Tryz.prog:=mkF hmix 19 Tryz.func231 rfl rfl (by decide) [] (fun(l:List (Rat×Rat×Rat))(u:List (Rat×Rat×Rat)) b hx hp=>qa (show Int.natAbs (fidx (fun j=>(!decide (spP u (l.getD j (0,(0,0)))))) 0 l.length)≤(b0 b).len+1 from by have h1:=Fo (fun j=>(!decide (spP u (l.getD j (0,(0,0)))))) l.length 0;have h2:=(Bnds.h2 hx).1.sl.1;omega) rfl) (fun(l:List (Rat×Rat×Rat))(u:List (Rat×Rat×Rat)) hx hp=>by
 have hl0:l.length≤96:=hx.1.1
 refine⟨.loop [.s 8 (.nat .i64) (.n 8388608)] (fun(i:Nat)=>fidx (fun j=>(!decide (spP u (l.getD j (0,(0,0)))))) i (l.length-i)=fidx (fun j=>(!decide (spP u (l.getD j (0,(0,0)))))) 0 l.length∧i≤l.length) (fun(i:Nat)=>l.length-i) (fun(i:Nat)=> .cond (.h 4 5 (.ext (IM YO)) (.nil)) (.nil)),kcast (by kernel_rfl) (I (⟨rfl,Nat.zero_le _⟩:fidx (fun j=>(!decide (spP u (l.getD j (0,(0,0)))))) 0 (l.length-0)=fidx (fun j=>(!decide (spP u (l.getD j (0,(0,0)))))) 0 l.length∧0≤l.length) (fun(i:Nat)(hb1:HB [.s 8 (.nat .i64) (.n 8388608)] i)(hI:fidx (fun j=>(!decide (spP u (l.getD j (0,(0,0)))))) i (l.length-i)=fidx (fun j=>(!decide (spP u (l.getD j (0,(0,0)))))) 0 l.length∧i≤l.length)=>have hv6:=(show i≤8388608 from hb1);have hIi:=hI.2;Sp (i<l.length) (fun h2=>I (?_:i<l.length) (Sp ((!decide (spP u (l.getD i (0,(0,0)))))=true) (fun h3=>(EC hI.1 (by omega) (show(!decide (spP u (l.getD i (0,(0,0)))))=true from h3):(i:Int)=fidx (fun j=>(!decide (spP u (l.getD j (0,(0,0)))))) 0 l.length)) (fun h4=>I (show(i+1)≤8388608 by omega:Bnd (.nat .i64) (.n 8388608) (i+1)) (And.intro (⟨Gp hI.1 (by omega) (show¬(!decide (spP u (l.getD i (0,(0,0)))))=true from h4),by omega⟩:fidx (fun j=>(!decide (spP u (l.getD j (0,(0,0)))))) (i+1) (l.length-(i+1))=fidx (fun j=>(!decide (spP u (l.getD j (0,(0,0)))))) 0 l.length∧(i+1)≤l.length) (?_:l.length-(i+1)<l.length-i))))) (fun h5=>(EB hI.1 (by omega):(-1)=fidx (fun j=>(!decide (spP u (l.getD j (0,(0,0)))))) 0 l.length))))⟩<;>omega)
abbrev UO:Ctr Tryz.prog:=FI.c UQ
abbrev UM:FI:=⟨157,[(.sl (.pr .rat (.pr .rat .rat))),(.cl 158 (.sl (.pr .rat (.pr .rat .rat))))],[(.s 96 (.p (.n 41000) (.p (.n 41000) (.n 41000)))),(.s 64 (.p (.n 64) (.p (.n 64) (.n 64))))],fun _=>[],fun b z=>(fun(l:List (Rat×Rat×Rat))(u:List (Rat×Rat×Rat))=> .c (.one (.dt .bool .u (decide (0≤fidx (fun j=>(!decide (spP u (l.getD j (0,(0,0)))))) 0 l.length))))) z.1 z.2⟩
theorem UN:UM.OK Tryz.prog:=mkF hmix 9 Tryz.func157 rfl rfl (by decide) [] (fun(l:List (Rat×Rat×Rat))(u:List (Rat×Rat×Rat)) b hx hp=>qa trivial rfl) (fun(l:List (Rat×Rat×Rat))(u:List (Rat×Rat×Rat)) hx hp=>by
 refine⟨.h 1 2 (.c UO) (.nil),kcast (by kernel_rfl) ((Eq.refl (decide (0≤fidx (fun j=>(!decide (spP u (l.getD j (0,(0,0)))))) 0 l.length))))⟩)
abbrev UL:Ctr Tryz.prog:=FI.c UN
abbrev UJ:FI:=⟨88,[(.pr (.pr .rat (.pr .rat .rat)) (.pr (.pr .rat (.pr .rat .rat)) (.pr .rat (.pr .rat .rat)))),(.pr (.pr .rat (.pr .rat .rat)) (.pr (.pr .rat (.pr .rat .rat)) (.pr .rat (.pr .rat .rat))))],[(.p (.p (.n 64) (.p (.n 64) (.n 64))) (.p (.p (.n 64) (.p (.n 64) (.n 64))) (.p (.n 64) (.p (.n 64) (.n 64))))),(.p (.p (.n 64) (.p (.n 64) (.n 64))) (.p (.p (.n 64) (.p (.n 64) (.n 64))) (.p (.n 64) (.p (.n 64) (.n 64)))))],fun z=>(fun(a:(Rat×Rat×Rat)×(Rat×Rat×Rat)×Rat×Rat×Rat)(b_:(Rat×Rat×Rat)×(Rat×Rat×Rat)×Rat×Rat×Rat)=>[Bnd tT3 (bT3 64) a,Bnd tT3 (bT3 64) b_]) z.1 z.2,fun b z=>(fun(a:(Rat×Rat×Rat)×(Rat×Rat×Rat)×Rat×Rat×Rat)(b_:(Rat×Rat×Rat)×(Rat×Rat×Rat)×Rat×Rat×Rat)=> .c (.one (.dt .bool .u (decide (crX a b_))))) z.1 z.2⟩
theorem UK:UJ.OK Tryz.prog:=mkF hmix 17 Tryz.func88 rfl rfl (by decide) [(57,.c L8),(155,.c Qj),(156,.c UW)] (fun(a:(Rat×Rat×Rat)×(Rat×Rat×Rat)×Rat×Rat×Rat)(b_:(Rat×Rat×Rat)×(Rat×Rat×Rat)×Rat×Rat×Rat) b hx hp=>qa trivial rfl) (fun(a:(Rat×Rat×Rat)×(Rat×Rat×Rat)×Rat×Rat×Rat)(b_:(Rat×Rat×Rat)×(Rat×Rat×Rat)×Rat×Rat×Rat) hx hp=>by
 have hp0:Bnd tT3 (bT3 64) a:=hp _ (List.mem_cons_self)
 have hp1:Bnd tT3 (bT3 64) b_:=hp _ (List.mem_cons_of_mem _ (List.mem_cons_self))
 refine⟨.cond (.nil) (.pre 4 (.ex (frzP 5 (.sl (.pr .rat (.pr .rat .rat))) (.s 64 (.p (.n 64) (.p (.n 64) (.n 64)))) [5])) (.h 4 3 (.ext zZ) (.h 4 4 (.c UL) (.nil)))),kcast (by kernel_rfl) (I (hp0:Bnd tT3 (bT3 64) a) (I (hp1:Bnd tT3 (bT3 64) b_) (Sp (decide (aprt a b_)=true) (fun h1=>(cr_1 h1:false=decide (crX a b_))) (fun h2=>I (hp0:Bnd tT3 (bT3 64) a) (I (hp1:Bnd tT3 (bT3 64) b_) (I (hp0:Bnd tT3 (bT3 64) a) (I (hp1:Bnd tT3 (bT3 64) b_) (I (Nat.le_trans (BV _ _).2 (by decide):(qb a b_).length≤12) ((cr_2 h2:decide (0≤fidx (fun j=>(!decide (spP (shP a b_) ((qv a b_).getD j (0,(0,0)))))) 0 (qv a b_).length)=decide (crX a b_)))))))))))⟩)
abbrev UI:Ctr Tryz.prog:=FI.c UK
abbrev Wc:FI:=⟨163,[(.pr (.pr .rat (.pr .rat .rat)) (.pr (.pr .rat (.pr .rat .rat)) (.pr .rat (.pr .rat .rat)))),(.pr (.pr .rat (.pr .rat .rat)) (.pr (.pr .rat (.pr .rat .rat)) (.pr .rat (.pr .rat .rat))))],[(.p (.p (.n 64) (.p (.n 64) (.n 64))) (.p (.p (.n 64) (.p (.n 64) (.n 64))) (.p (.n 64) (.p (.n 64) (.n 64))))),(.p (.p (.n 64) (.p (.n 64) (.n 64))) (.p (.p (.n 64) (.p (.n 64) (.n 64))) (.p (.n 64) (.p (.n 64) (.n 64)))))],fun z=>(fun(a:(Rat×Rat×Rat)×(Rat×Rat×Rat)×Rat×Rat×Rat)(b_:(Rat×Rat×Rat)×(Rat×Rat×Rat)×Rat×Rat×Rat)=>[Bnd tT3 (bT3 64) a,Bnd tT3 (bT3 64) b_]) z.1 z.2,fun b z=>(fun(a:(Rat×Rat×Rat)×(Rat×Rat×Rat)×Rat×Rat×Rat)(b_:(Rat×Rat×Rat)×(Rat×Rat×Rat)×Rat×Rat×Rat)=> .c (.one (.dt (.sl tV3) (.s 9 (bV3 64)) (shR a b_ 3)))) z.1 z.2⟩
theorem Wd:Wc.OK Tryz.prog:=mkF hmix 30 Tryz.func163 rfl rfl (by decide) [(55,.c Aw)] (fun(a:(Rat×Rat×Rat)×(Rat×Rat×Rat)×Rat×Rat×Rat)(b_:(Rat×Rat×Rat)×(Rat×Rat×Rat)×Rat×Rat×Rat) b hx hp=>qa ⟨GO _ _ 3,SU (hp _ List.mem_cons_self) 3⟩ rfl) (fun(a:(Rat×Rat×Rat)×(Rat×Rat×Rat)×Rat×Rat×Rat)(b_:(Rat×Rat×Rat)×(Rat×Rat×Rat)×Rat×Rat×Rat) hx hp=>by
 refine⟨.loop [.s 6 (.nat .i64) (.n 3),.g 5 90001 (.pr .rat (.pr .rat .rat)) (.p (.n 64) (.p (.n 64) (.n 64))) 9] (fun((i,t):Nat×List (Rat×Rat×Rat))=>t=shR a b_ i∧i≤3) (fun((i,t):Nat×List (Rat×Rat×Rat))=>3-i) (fun((i,t):Nat×List (Rat×Rat×Rat))=> .cond (.loop [.s 7 (.nat .i64) (.n 3),.g 5 90002 (.pr .rat (.pr .rat .rat)) (.p (.n 64) (.p (.n 64) (.n 64))) 9] (fun((j,u):Nat×List (Rat×Rat×Rat))=>u=shR a b_ i++shB (getT a i) b_ j∧j≤3) (fun((j,u):Nat×List (Rat×Rat×Rat))=>3-j) (fun((j,u):Nat×List (Rat×Rat×Rat))=> .cond (.h 8 1 (.ext zX) (.h 8 2 (.ext (zY (.pr .rat (.pr .rat .rat)) (.p (.n 64) (.p (.n 64) (.n 64))) 3)) (.h 8 4 (.ext zX) (.h 8 5 (.ext (zY (.pr .rat (.pr .rat .rat)) (.p (.n 64) (.p (.n 64) (.n 64))) 3)) (.cond (.h 9 2 (.ext zX) (.h 9 3 (.ext (zY (.pr .rat (.pr .rat .rat)) (.p (.n 64) (.p (.n 64) (.n 64))) 3)) (.h 9 4 (.mk (.im (.pr .rat (.pr .rat .rat)) (.p (.n 64) (.p (.n 64) (.n 64))))) (.nil)))) (.nil)))))) (.nil))) (.pre 999999 (.frz 90001 true [4]) (.nil))),kcast (by kernel_rfl) (I (rfl:0=([]:List (Rat×Rat×Rat)).length) (I (⟨rfl,Nat.zero_le _⟩:([]:List (Rat×Rat×Rat))=shR a b_ 0∧0≤3) (fun(i:Nat)(t:List (Rat×Rat×Rat))(hb1:HB [.s 6 (.nat .i64) (.n 3),.g 5 90001 (.pr .rat (.pr .rat .rat)) (.p (.n 64) (.p (.n 64) (.n 64))) 9] (i,t))(hI:t=shR a b_ i∧i≤3)=>have hv11:=(show i≤3 from hb1.1);have hv12:=(show t.length≤9 from hb1.2.1);have hii:=hI.2;Sp (i<3) (fun h2=>I (?_:t.length=t.length) (I (⟨hI.1.trans (List.append_nil _).symm,Nat.zero_le _⟩:t=shR a b_ i++shB (getT a i) b_ 0∧0≤3) (fun(j:Nat)(u:List (Rat×Rat×Rat))(hb3:HB [.s 7 (.nat .i64) (.n 3),.g 5 90002 (.pr .rat (.pr .rat .rat)) (.p (.n 64) (.p (.n 64) (.n 64))) 9] (j,u))(hJ:u=shR a b_ i++shB (getT a i) b_ j∧j≤3)=>have hv8:=(show j≤3 from hb3.1);have hv9:=(show u.length≤9 from hb3.2.1);have hul:=(show u.length≤3*i+j from by rw[hJ.1,List.length_append];have h1:=GO a b_ i;have h2:=GN (getT a i) b_ j;omega);Sp (j<3) (fun h4=>I (?_:i<3) (I (?_:i<3) (I (?_:j<3) (I (?_:j<3) (Sp (decide (([a.1,a.2.1,a.2.2].getD i (0,(0,0)))=([b_.1,b_.2.1,b_.2.2].getD j (0,(0,0))))=true) (fun h5=>I (?_:i<3) (I (?_:i<3) (I (?_:u.length=u.length) (I (show(j+1)≤3 by omega:Bnd (.nat .i64) (.n 3) (j+1)) (I (by(try simp only[List.length_append,List.length_cons,List.length_nil])<;>omega:u.length+[[a.1,a.2.1,a.2.2].getD i (0,(0,0))].length=(u++[[a.1,a.2.1,a.2.2].getD i (0,(0,0))]).length) (I (by(try simp only[List.length_append,List.length_cons,List.length_nil])<;>omega:u.length+[[a.1,a.2.1,a.2.2].getD i (0,(0,0))].length≤9) (And.intro (⟨(ST hJ.1).1 h5,by omega⟩:u++[[a.1,a.2.1,a.2.2].getD i (0,(0,0))]=shR a b_ i++shB (getT a i) b_ (j+1)∧(j+1)≤3) (?_:3-(j+1)<3-j)))))))) (fun h6=>I (show(j+1)≤3 by omega:Bnd (.nat .i64) (.n 3) (j+1)) (I (?_:u.length=u.length) (And.intro (⟨(ST hJ.1).2 h6,by omega⟩:u=shR a b_ i++shB (getT a i) b_ (j+1)∧(j+1)≤3) (?_:3-(j+1)<3-j))))))))) (fun h7=>I (show(i+1)≤3 by omega:Bnd (.nat .i64) (.n 3) (i+1)) (I (?_:u.length=u.length) (And.intro (⟨hJ.1.trans (show _=shR a b_ i++shB (getT a i) b_ 3 by rw[show j=3 by omega]),by omega⟩:u=shR a b_ (i+1)∧(i+1)≤3) (?_:3-(i+1)<3-i))))))) (fun h10=>I (?_:t.length=t.length) ((hI.1.trans (by rw[show i=3 by omega]):t=shR a b_ 3))))))⟩<;>omega)
abbrev Wb:Ctr Tryz.prog:=FI.c Wd
abbrev Wk:FI:=⟨164,[(.sl (.pr .rat (.pr .rat .rat))),(.pr .rat (.pr .rat .rat))],[(.s 9 (.p (.n 64) (.p (.n 64) (.n 64)))),(.p (.n 65536) (.p (.n 65536) (.n 65536)))],fun _=>[],fun b z=>(fun(l:List (Rat×Rat×Rat))(p:Rat×Rat×Rat)=> .c (.one (.dt .bool .u (decide (spR l p))))) z.1 z.2⟩
theorem Wl:Wk.OK Tryz.prog:=mkF hmix 31 Tryz.func164 rfl rfl (by decide) [(55,.c Aw),(63,.c OR)] (fun(l:List (Rat×Rat×Rat))(p:Rat×Rat×Rat) b hx hp=>qa trivial rfl) (fun(l:List (Rat×Rat×Rat))(p:Rat×Rat×Rat) hx hp=>by
 have hl0:l.length≤9:=hx.1.1
 refine⟨.loop [.s 5 (.nat .i64) (.n 64)] (fun(i:Nat)=>NoQ l p i∧i≤l.length) (fun(i:Nat)=>l.length-i) (fun(i:Nat)=> .nil),kcast (by kernel_rfl) (I (⟨q1T _ _,Nat.zero_le _⟩:NoQ l p 0∧0≤l.length) (fun(i:Nat)(hb1:HB [.s 5 (.nat .i64) (.n 64)] i)(hI:NoQ l p i∧i≤l.length)=>have hv8:=(show i≤64 from hb1);have hIi:=hI.2;Sp (i<l.length) (fun h2=>I (?_:i<l.length) (Sp (decide ((l.getD i (0,(0,0)))=p)=true) (fun h3=>(sr_1 (by omega) h3:true=decide (spR l p))) (fun h4=>I (show(i+1)≤64 by omega:Bnd (.nat .i64) (.n 64) (i+1)) (And.intro (⟨q1U hI.1 h4,by omega⟩:NoQ l p (i+1)∧(i+1)≤l.length) (?_:l.length-(i+1)<l.length-i))))) (fun h5=>Sp (l.length=2) (fun h6=>I (?_:0<l.length) (I (?_:1<l.length) ((sr_2 hI.1 (by omega) h6:decide (insQ (l.getD 0 (0,(0,0))) (l.getD 1 (0,(0,0))) p)=decide (spR l p))))) (fun h7=>(sr_3 hI.1 (by omega) h7:false=decide (spR l p))))))⟩<;>omega)
abbrev Wj:Ctr Tryz.prog:=FI.c Wl
abbrev W1:FI:=⟨92,[(.pr (.pr .rat (.pr .rat .rat)) (.pr (.pr .rat (.pr .rat .rat)) (.pr .rat (.pr .rat .rat)))),(.pr (.pr .rat (.pr .rat .rat)) (.pr (.pr .rat (.pr .rat .rat)) (.pr .rat (.pr .rat .rat))))],[(.p (.p (.n 64) (.p (.n 64) (.n 64))) (.p (.p (.n 64) (.p (.n 64) (.n 64))) (.p (.n 64) (.p (.n 64) (.n 64))))),(.p (.p (.n 64) (.p (.n 64) (.n 64))) (.p (.p (.n 64) (.p (.n 64) (.n 64))) (.p (.n 64) (.p (.n 64) (.n 64)))))],fun z=>(fun(a:(Rat×Rat×Rat)×(Rat×Rat×Rat)×Rat×Rat×Rat)(b_:(Rat×Rat×Rat)×(Rat×Rat×Rat)×Rat×Rat×Rat)=>[Bnd tT3 (bT3 64) a,Bnd tT3 (bT3 64) b_]) z.1 z.2,fun b z=>(fun(a:(Rat×Rat×Rat)×(Rat×Rat×Rat)×Rat×Rat×Rat)(b_:(Rat×Rat×Rat)×(Rat×Rat×Rat)×Rat×Rat×Rat)=> .c (.one (.dt .bool .u (decide (meX a b_))))) z.1 z.2⟩
theorem W4:W1.OK Tryz.prog:=mkF hmix 30 Tryz.func92 rfl rfl (by decide) [(15,.c VU),(163,.c Wb),(164,.c Wj)] (fun(a:(Rat×Rat×Rat)×(Rat×Rat×Rat)×Rat×Rat×Rat)(b_:(Rat×Rat×Rat)×(Rat×Rat×Rat)×Rat×Rat×Rat) b hx hp=>qa trivial rfl) (fun(a:(Rat×Rat×Rat)×(Rat×Rat×Rat)×Rat×Rat×Rat)(b_:(Rat×Rat×Rat)×(Rat×Rat×Rat)×Rat×Rat×Rat) hx hp=>by
 have hp0:Bnd tT3 (bT3 64) a:=hp _ (List.mem_cons_self)
 have hp1:Bnd tT3 (bT3 64) b_:=hp _ (List.mem_cons_of_mem _ (List.mem_cons_self))
 refine⟨.cond (.nil) (.loop [.s 7 (.nat .i64) (.n 97)] (fun(i:Nat)=>AllS a b_ i∧i≤(qv a b_).length) (fun(i:Nat)=>(qv a b_).length-i) (fun(i:Nat)=> .nil)),kcast (by kernel_rfl) (I (hp0:Bnd tT3 (bT3 64) a) (I (hp1:Bnd tT3 (bT3 64) b_) (I (hp0:Bnd tT3 (bT3 64) a) (I (hp1:Bnd tT3 (bT3 64) b_) (Sp (3≤(shR a b_ 3).length) (fun h1=>(me_1 h1:false=decide (meX a b_))) (fun h2=>have hcl:=(PM a b_);I (⟨XF _ _,Nat.zero_le _⟩:AllS a b_ 0∧0≤(qv a b_).length) (fun(i:Nat)(hb3:HB [.s 7 (.nat .i64) (.n 97)] i)(hI:AllS a b_ i∧i≤(qv a b_).length)=>have hv8:=(show i≤97 from hb3);have hIi:=hI.2;Sp (i<(qv a b_).length) (fun h4=>I (?_:i<(qv a b_).length) (Sp ((!(decide (spR (shR a b_ 3) ((qv a b_).getD i (0,(0,0))))))=true) (fun h5=>(me_2 h2 (by omega) h5:true=decide (meX a b_))) (fun h6=>I (show(i+1)≤97 by omega:Bnd (.nat .i64) (.n 97) (i+1)) (And.intro (⟨XG hI.1 h6,by omega⟩:AllS a b_ (i+1)∧(i+1)≤(qv a b_).length) (?_:(qv a b_).length-(i+1)<(qv a b_).length-i))))) (fun h7=>(me_3 hI.1 (by omega):false=decide (meX a b_))))))))))⟩<;>omega)
abbrev W0:Ctr Tryz.prog:=FI.c W4
abbrev QA:FI:=⟨36,[(.pr (.sl (.pr .rat (.pr .rat .rat))) (.pr (.sl (.pr (.int .i64) (.pr (.int .i64) (.int .i64)))) (.sl (.int .i64))))],[(.p (.s 64 (.p (.n 64) (.p (.n 64) (.n 64)))) (.p (.s 64 (.p (.n 1048576) (.p (.n 1048576) (.n 1048576)))) (.s 64 (.n 1048576))))],fun z=>(fun(m:(List (Rat×Rat×Rat))×(List (Int×Int×Int))×List Int)=>[Bnd tMsh bMsh m]) z,fun b z=>(fun(m:(List (Rat×Rat×Rat))×(List (Int×Int×Int))×List Int)=> .tup [.one (.dt (.nat .i64) (.n 1048576) (metP m).1),.one (.dt (.nat .i64) (.n 1048576) (metP m).2.1),.one (.dt .bool .u (metP m).2.2)]) z⟩
theorem QB:QA.OK Tryz.prog:=mkF hmix 52 Tryz.func36 rfl rfl (by decide) [(87,.c Qn),(88,.c UI),(89,.c J5)] (fun(m:(List (Rat×Rat×Rat))×(List (Int×Int×Int))×List Int) b hx hp=>qu (qa (NT (hp _ List.mem_cons_self).2.1.1).1 rfl) (qu (qa (NT (hp _ List.mem_cons_self).2.1.1).2 rfl) (qu (qa trivial rfl) jh))) (fun(m:(List (Rat×Rat×Rat))×(List (Int×Int×Int))×List Int) hx hp=>by
 have hp0:Bnd tMsh bMsh m:=hp _ (List.mem_cons_self)
 have hml:m.2.1.length≤64:=hp0.2.1.1
 refine⟨.cond (.cond (.nil) (.loop [.s 24 (.nat .i64) (.n 65)] (fun(i:Nat)=>srI (xP m) m.2.1.length i (m.2.1.length-i)=srI (xP m) m.2.1.length 0 m.2.1.length∧i≤m.2.1.length) (fun(i:Nat)=>m.2.1.length-i) (fun(i:Nat)=> .cond (.loop [.s 8 (.nat .i64) (.n 65)] (fun(j:Nat)=>srJ (xP m) i j (m.2.1.length-j)=srJ (xP m) i (i+1) (m.2.1.length-(i+1))∧j≤m.2.1.length) (fun(j:Nat)=>m.2.1.length-j) (fun(j:Nat)=> .nil)) (.nil)))) (.loop [.s 24 (.nat .i64) (.n 65)] (fun(i:Nat)=>srI (xP m) m.2.1.length i (m.2.1.length-i)=srI (xP m) m.2.1.length 0 m.2.1.length∧i≤m.2.1.length) (fun(i:Nat)=>m.2.1.length-i) (fun(i:Nat)=> .cond (.loop [.s 8 (.nat .i64) (.n 65)] (fun(j:Nat)=>srJ (xP m) i j (m.2.1.length-j)=srJ (xP m) i (i+1) (m.2.1.length-(i+1))∧j≤m.2.1.length) (fun(j:Nat)=>m.2.1.length-j) (fun(j:Nat)=> .nil)) (.nil))),kcast (by kernel_rfl) (I (hp0:Bnd tMsh bMsh m) (Sp (0<(mkP m).length) (fun h1=>I (?_:0<(mkP m).length) (Sp (((mkP m).getD 0 (0,(0,(0,(0,0))))).1≠30) (fun h2=>And.intro ((Md h1 h2).1:0=(metP m).1) (And.intro ((Md h1 h2).2.1:0=(metP m).2.1) ((Md h1 h2).2.2:false=(metP m).2.2))) (fun h3=>have hok:=(q1J h3);I (⟨rfl,Nat.zero_le _⟩:srI (xP m) m.2.1.length 0 (m.2.1.length-0)=srI (xP m) m.2.1.length 0 m.2.1.length∧0≤m.2.1.length) (fun(i:Nat)(hb4:HB [.s 24 (.nat .i64) (.n 65)] i)(hI:srI (xP m) m.2.1.length i (m.2.1.length-i)=srI (xP m) m.2.1.length 0 m.2.1.length∧i≤m.2.1.length)=>have hv13:=(show i≤65 from hb4);have hIi:=hI.2;Sp (i<m.2.1.length) (fun h5=>I (?_:i<m.2.1.length) (I (show(i+1)≤65 by omega:Bnd (.nat .i64) (.n 65) (i+1)) (I (⟨rfl,by omega⟩:srJ (xP m) i (i+1) (m.2.1.length-(i+1))=srJ (xP m) i (i+1) (m.2.1.length-(i+1))∧(i+1)≤m.2.1.length) (fun(j:Nat)(hb6:HB [.s 8 (.nat .i64) (.n 65)] j)(hJ:srJ (xP m) i j (m.2.1.length-j)=srJ (xP m) i (i+1) (m.2.1.length-(i+1))∧j≤m.2.1.length)=>have hv11:=(show j≤65 from hb6);have hJj:=hJ.2;Sp (j<m.2.1.length) (fun h7=>I (hp0:Bnd tMsh bMsh m) (I (hok.2.1 i (by omega):inR m.1.length (m.2.1.getD i (0,(0,0)))) (I (?_:j<m.2.1.length) (I (hp0:Bnd tMsh bMsh m) (I (hok.2.1 j (by omega):inR m.1.length (m.2.1.getD j (0,(0,0)))) (I (vU hp0.1.2 _:Bnd tT3 (bT3 64) (qQ m.1 (m.2.1.getD i (0,(0,0))))) (I (vU hp0.1.2 _:Bnd tT3 (bT3 64) (qQ m.1 (m.2.1.getD j (0,(0,0))))) (Sp (decide (crX (qQ m.1 (m.2.1.getD i (0,(0,0)))) (qQ m.1 (m.2.1.getD j (0,(0,0)))))=true) (fun h8=>And.intro ((DU hok hI.1 (by omega) hJ.1 (by omega) h8).1:i=(metP m).1) (And.intro ((DU hok hI.1 (by omega) hJ.1 (by omega) h8).2.1:j=(metP m).2.1) ((DU hok hI.1 (by omega) hJ.1 (by omega) h8).2.2:true=(metP m).2.2))) (fun h9=>I (show(j+1)≤65 by omega:Bnd (.nat .i64) (.n 65) (j+1)) (And.intro (⟨Ic hJ.1 (by omega) h9,by omega⟩:srJ (xP m) i (j+1) (m.2.1.length-(j+1))=srJ (xP m) i (i+1) (m.2.1.length-(i+1))∧(j+1)≤m.2.1.length) (?_:m.2.1.length-(j+1)<m.2.1.length-j))))))))))) (fun h10=>I (show(i+1)≤65 by omega:Bnd (.nat .i64) (.n 65) (i+1)) (And.intro (⟨Ib hI.1 (by omega) hJ.1 (by omega),by omega⟩:srI (xP m) m.2.1.length (i+1) (m.2.1.length-(i+1))=srI (xP m) m.2.1.length 0 m.2.1.length∧(i+1)≤m.2.1.length) (?_:m.2.1.length-(i+1)<m.2.1.length-i))))))) (fun h12=>And.intro ((DV hok hI.1 (by omega)).1:0=(metP m).1) (And.intro ((DV hok hI.1 (by omega)).2.1:0=(metP m).2.1) ((DV hok hI.1 (by omega)).2.2:false=(metP m).2.2))))))) (fun h14=>have hok:=(q1I h14);I (⟨rfl,Nat.zero_le _⟩:srI (xP m) m.2.1.length 0 (m.2.1.length-0)=srI (xP m) m.2.1.length 0 m.2.1.length∧0≤m.2.1.length) (fun(i:Nat)(hb15:HB [.s 24 (.nat .i64) (.n 65)] i)(hI:srI (xP m) m.2.1.length i (m.2.1.length-i)=srI (xP m) m.2.1.length 0 m.2.1.length∧i≤m.2.1.length)=>have hv24:=(show i≤65 from hb15);have hIi:=hI.2;Sp (i<m.2.1.length) (fun h16=>I (?_:i<m.2.1.length) (I (show(i+1)≤65 by omega:Bnd (.nat .i64) (.n 65) (i+1)) (I (⟨rfl,by omega⟩:srJ (xP m) i (i+1) (m.2.1.length-(i+1))=srJ (xP m) i (i+1) (m.2.1.length-(i+1))∧(i+1)≤m.2.1.length) (fun(j:Nat)(hb17:HB [.s 8 (.nat .i64) (.n 65)] j)(hJ:srJ (xP m) i j (m.2.1.length-j)=srJ (xP m) i (i+1) (m.2.1.length-(i+1))∧j≤m.2.1.length)=>have hv22:=(show j≤65 from hb17);have hJj:=hJ.2;Sp (j<m.2.1.length) (fun h18=>I (hp0:Bnd tMsh bMsh m) (I (hok.2.1 i (by omega):inR m.1.length (m.2.1.getD i (0,(0,0)))) (I (?_:j<m.2.1.length) (I (hp0:Bnd tMsh bMsh m) (I (hok.2.1 j (by omega):inR m.1.length (m.2.1.getD j (0,(0,0)))) (I (vU hp0.1.2 _:Bnd tT3 (bT3 64) (qQ m.1 (m.2.1.getD i (0,(0,0))))) (I (vU hp0.1.2 _:Bnd tT3 (bT3 64) (qQ m.1 (m.2.1.getD j (0,(0,0))))) (Sp (decide (crX (qQ m.1 (m.2.1.getD i (0,(0,0)))) (qQ m.1 (m.2.1.getD j (0,(0,0)))))=true) (fun h19=>And.intro ((DU hok hI.1 (by omega) hJ.1 (by omega) h19).1:i=(metP m).1) (And.intro ((DU hok hI.1 (by omega) hJ.1 (by omega) h19).2.1:j=(metP m).2.1) ((DU hok hI.1 (by omega) hJ.1 (by omega) h19).2.2:true=(metP m).2.2))) (fun h20=>I (show(j+1)≤65 by omega:Bnd (.nat .i64) (.n 65) (j+1)) (And.intro (⟨Ic hJ.1 (by omega) h20,by omega⟩:srJ (xP m) i (j+1) (m.2.1.length-(j+1))=srJ (xP m) i (i+1) (m.2.1.length-(i+1))∧(j+1)≤m.2.1.length) (?_:m.2.1.length-(j+1)<m.2.1.length-j))))))))))) (fun h21=>I (show(i+1)≤65 by omega:Bnd (.nat .i64) (.n 65) (i+1)) (And.intro (⟨Ib hI.1 (by omega) hJ.1 (by omega),by omega⟩:srI (xP m) m.2.1.length (i+1) (m.2.1.length-(i+1))=srI (xP m) m.2.1.length 0 m.2.1.length∧(i+1)≤m.2.1.length) (?_:m.2.1.length-(i+1)<m.2.1.length-i))))))) (fun h23=>And.intro ((DV hok hI.1 (by omega)).1:0=(metP m).1) (And.intro ((DV hok hI.1 (by omega)).2.1:0=(metP m).2.1) ((DV hok hI.1 (by omega)).2.2:false=(metP m).2.2)))))))⟩<;>omega)
abbrev Qz:Ctr Tryz.prog:=FI.c QB
abbrev Rj:FI:=⟨37,[(.pr (.sl (.pr .rat (.pr .rat .rat))) (.pr (.sl (.pr (.int .i64) (.pr (.int .i64) (.int .i64)))) (.sl (.int .i64))))],[(.p (.s 64 (.p (.n 64) (.p (.n 64) (.n 64)))) (.p (.s 64 (.p (.n 1048576) (.p (.n 1048576) (.n 1048576)))) (.s 64 (.n 1048576))))],fun z=>(fun(m:(List (Rat×Rat×Rat))×(List (Int×Int×Int))×List Int)=>[Bnd tMsh bMsh m]) z,fun b z=>(fun(m:(List (Rat×Rat×Rat))×(List (Int×Int×Int))×List Int)=> .tup [.one (.dt (.nat .i64) (.n 1048576) (metR m).1),.one (.dt (.nat .i64) (.n 1048576) (metR m).2.1),.one (.dt .bool .u (metR m).2.2)]) z⟩
theorem Rk:Rj.OK Tryz.prog:=mkF hmix 42 Tryz.func37 rfl rfl (by decide) [(90,.c VX),(91,.c R6),(92,.c W0),(93,.c Jr)] (fun(m:(List (Rat×Rat×Rat))×(List (Int×Int×Int))×List Int) b hx hp=>qu (qa (NU (hp _ List.mem_cons_self).2.1.1).1 rfl) (qu (qa (NU (hp _ List.mem_cons_self).2.1.1).2 rfl) (qu (qa trivial rfl) jh))) (fun(m:(List (Rat×Rat×Rat))×(List (Int×Int×Int))×List Int) hx hp=>by
 have hp0:Bnd tMsh bMsh m:=hp _ (List.mem_cons_self)
 have hml:m.2.1.length≤64:=hp0.2.1.1
 refine⟨.cond (.cond (.nil) (.loop [.s 6 (.nat .i64) (.n 65)] (fun(i:Nat)=>srI (xR m) m.2.1.length i (m.2.1.length-i)=srI (xR m) m.2.1.length 0 m.2.1.length∧i≤m.2.1.length) (fun(i:Nat)=>m.2.1.length-i) (fun(i:Nat)=> .cond (.loop [.s 7 (.nat .i64) (.n 65)] (fun(j:Nat)=>srJ (xR m) i j (m.2.1.length-j)=srJ (xR m) i (i+1) (m.2.1.length-(i+1))∧j≤m.2.1.length) (fun(j:Nat)=>m.2.1.length-j) (fun(j:Nat)=> .nil)) (.nil)))) (.loop [.s 6 (.nat .i64) (.n 65)] (fun(i:Nat)=>srI (xR m) m.2.1.length i (m.2.1.length-i)=srI (xR m) m.2.1.length 0 m.2.1.length∧i≤m.2.1.length) (fun(i:Nat)=>m.2.1.length-i) (fun(i:Nat)=> .cond (.loop [.s 7 (.nat .i64) (.n 65)] (fun(j:Nat)=>srJ (xR m) i j (m.2.1.length-j)=srJ (xR m) i (i+1) (m.2.1.length-(i+1))∧j≤m.2.1.length) (fun(j:Nat)=>m.2.1.length-j) (fun(j:Nat)=> .nil)) (.nil))),kcast (by kernel_rfl) (I (hp0:Bnd tMsh bMsh m) (I (Gx hp0:Bnd (.sl tDg) (.s 192 bDg) (mkR m)) (Sp (vn (mkR m)≠0) (fun h1=>Sp (vn (mkR m)≠30) (fun h2=>And.intro ((Mc h1 h2).1:0=(metR m).1) (And.intro ((Mc h1 h2).2.1:0=(metR m).2.1) ((Mc h1 h2).2.2:false=(metR m).2.2))) (fun h3=>have hok:=(q1D h3);I (⟨rfl,Nat.zero_le _⟩:srI (xR m) m.2.1.length 0 (m.2.1.length-0)=srI (xR m) m.2.1.length 0 m.2.1.length∧0≤m.2.1.length) (fun(i:Nat)(hb4:HB [.s 6 (.nat .i64) (.n 65)] i)(hI:srI (xR m) m.2.1.length i (m.2.1.length-i)=srI (xR m) m.2.1.length 0 m.2.1.length∧i≤m.2.1.length)=>have hv13:=(show i≤65 from hb4);have hIi:=hI.2;Sp (i<m.2.1.length) (fun h5=>I (show(i+1)≤65 by omega:Bnd (.nat .i64) (.n 65) (i+1)) (I (⟨rfl,by omega⟩:srJ (xR m) i (i+1) (m.2.1.length-(i+1))=srJ (xR m) i (i+1) (m.2.1.length-(i+1))∧(i+1)≤m.2.1.length) (fun(j:Nat)(hb6:HB [.s 7 (.nat .i64) (.n 65)] j)(hJ:srJ (xR m) i j (m.2.1.length-j)=srJ (xR m) i (i+1) (m.2.1.length-(i+1))∧j≤m.2.1.length)=>have hv11:=(show j≤65 from hb6);have hJj:=hJ.2;Sp (j<m.2.1.length) (fun h7=>I (hp0:Bnd tMsh bMsh m) (I (?_:i<m.2.1.length) (I (hok.2.1 i (by omega):inR m.1.length (triA m i)) (I (hp0:Bnd tMsh bMsh m) (I (?_:j<m.2.1.length) (I (hok.2.1 j (by omega):inR m.1.length (triA m j)) (I (vU hp0.1.2 _:Bnd tT3 (bT3 64) (qQ m.1 (triA m i))) (I (vU hp0.1.2 _:Bnd tT3 (bT3 64) (qQ m.1 (triA m j))) (Sp (decide (meX (qQ m.1 (triA m i)) (qQ m.1 (triA m j)))=true) (fun h8=>And.intro ((DS hok hI.1 (by omega) hJ.1 (by omega) h8).1:i=(metR m).1) (And.intro ((DS hok hI.1 (by omega) hJ.1 (by omega) h8).2.1:j=(metR m).2.1) ((DS hok hI.1 (by omega) hJ.1 (by omega) h8).2.2:true=(metR m).2.2))) (fun h9=>I (show(j+1)≤65 by omega:Bnd (.nat .i64) (.n 65) (j+1)) (And.intro (⟨Ic hJ.1 (by omega) h9,by omega⟩:srJ (xR m) i (j+1) (m.2.1.length-(j+1))=srJ (xR m) i (i+1) (m.2.1.length-(i+1))∧(j+1)≤m.2.1.length) (?_:m.2.1.length-(j+1)<m.2.1.length-j)))))))))))) (fun h10=>I (show(i+1)≤65 by omega:Bnd (.nat .i64) (.n 65) (i+1)) (And.intro (⟨Ib hI.1 (by omega) hJ.1 (by omega),by omega⟩:srI (xR m) m.2.1.length (i+1) (m.2.1.length-(i+1))=srI (xR m) m.2.1.length 0 m.2.1.length∧(i+1)≤m.2.1.length) (?_:m.2.1.length-(i+1)<m.2.1.length-i)))))) (fun h12=>And.intro ((DT hok hI.1 (by omega)).1:0=(metR m).1) (And.intro ((DT hok hI.1 (by omega)).2.1:0=(metR m).2.1) ((DT hok hI.1 (by omega)).2.2:false=(metR m).2.2)))))) (fun h14=>have hok:=(q1C h14);I (⟨rfl,Nat.zero_le _⟩:srI (xR m) m.2.1.length 0 (m.2.1.length-0)=srI (xR m) m.2.1.length 0 m.2.1.length∧0≤m.2.1.length) (fun(i:Nat)(hb15:HB [.s 6 (.nat .i64) (.n 65)] i)(hI:srI (xR m) m.2.1.length i (m.2.1.length-i)=srI (xR m) m.2.1.length 0 m.2.1.length∧i≤m.2.1.length)=>have hv24:=(show i≤65 from hb15);have hIi:=hI.2;Sp (i<m.2.1.length) (fun h16=>I (show(i+1)≤65 by omega:Bnd (.nat .i64) (.n 65) (i+1)) (I (⟨rfl,by omega⟩:srJ (xR m) i (i+1) (m.2.1.length-(i+1))=srJ (xR m) i (i+1) (m.2.1.length-(i+1))∧(i+1)≤m.2.1.length) (fun(j:Nat)(hb17:HB [.s 7 (.nat .i64) (.n 65)] j)(hJ:srJ (xR m) i j (m.2.1.length-j)=srJ (xR m) i (i+1) (m.2.1.length-(i+1))∧j≤m.2.1.length)=>have hv22:=(show j≤65 from hb17);have hJj:=hJ.2;Sp (j<m.2.1.length) (fun h18=>I (hp0:Bnd tMsh bMsh m) (I (?_:i<m.2.1.length) (I (hok.2.1 i (by omega):inR m.1.length (triA m i)) (I (hp0:Bnd tMsh bMsh m) (I (?_:j<m.2.1.length) (I (hok.2.1 j (by omega):inR m.1.length (triA m j)) (I (vU hp0.1.2 _:Bnd tT3 (bT3 64) (qQ m.1 (triA m i))) (I (vU hp0.1.2 _:Bnd tT3 (bT3 64) (qQ m.1 (triA m j))) (Sp (decide (meX (qQ m.1 (triA m i)) (qQ m.1 (triA m j)))=true) (fun h19=>And.intro ((DS hok hI.1 (by omega) hJ.1 (by omega) h19).1:i=(metR m).1) (And.intro ((DS hok hI.1 (by omega) hJ.1 (by omega) h19).2.1:j=(metR m).2.1) ((DS hok hI.1 (by omega) hJ.1 (by omega) h19).2.2:true=(metR m).2.2))) (fun h20=>I (show(j+1)≤65 by omega:Bnd (.nat .i64) (.n 65) (j+1)) (And.intro (⟨Ic hJ.1 (by omega) h20,by omega⟩:srJ (xR m) i (j+1) (m.2.1.length-(j+1))=srJ (xR m) i (i+1) (m.2.1.length-(i+1))∧(j+1)≤m.2.1.length) (?_:m.2.1.length-(j+1)<m.2.1.length-j)))))))))))) (fun h21=>I (show(i+1)≤65 by omega:Bnd (.nat .i64) (.n 65) (i+1)) (And.intro (⟨Ib hI.1 (by omega) hJ.1 (by omega),by omega⟩:srI (xR m) m.2.1.length (i+1) (m.2.1.length-(i+1))=srI (xR m) m.2.1.length 0 m.2.1.length∧(i+1)≤m.2.1.length) (?_:m.2.1.length-(i+1)<m.2.1.length-i)))))) (fun h23=>And.intro ((DT hok hI.1 (by omega)).1:0=(metR m).1) (And.intro ((DT hok hI.1 (by omega)).2.1:0=(metR m).2.1) ((DT hok hI.1 (by omega)).2.2:false=(metR m).2.2))))))))⟩<;>omega)
abbrev Ri:Ctr Tryz.prog:=FI.c Rk
abbrev Qh:FI:=⟨5,[(.sl (.int .i64))],[(.s 9223372036854775807 (.n 9223372036854775808))],fun _=>[],fun b z=> .c (.one (.dt .bool .u true))⟩
theorem Qi:Qh.OK Tryz.prog:=mkF hmix 57 Tryz.func5 rfl rfl (by decide) [(9,.c Uu),(10,.c UT),(11,.o TI),(34,.b TL),(35,.b Y1),(36,.c Qz),(37,.c Ri)] (fun(l:List Int) b hx hp=>qa trivial rfl) (fun(l:List Int) hx hp=>by
 have hl0:l.length≤9223372036854775807:=hx.1
 have he0: ∀u∈l,Bnd (.int .i64) (.n 9223372036854775808) u:=hx.2
 refine⟨.cond (.nil) (.pre 3 (.bd 0 (.s 1048576 (.n 9223372036854775808))) (.h 4 6 (.mk (.im (.pr (.sl (.pr .rat (.pr .rat .rat))) (.pr (.sl (.pr (.int .i64) (.pr (.int .i64) (.int .i64)))) (.sl (.int .i64)))) (.p (.s 64 (.p (.n 64) (.p (.n 64) (.n 64)))) (.p (.s 64 (.p (.n 1048576) (.p (.n 1048576) (.n 1048576)))) (.s 64 (.n 1048576)))))) (.loop [.s 26 (.nat .i64) (.n 3)] (fun(i:Nat)=>i≤2) (fun(i:Nat)=>2-i) (fun(i:Nat)=> .cond (.cond (.dead) (.cond (.dead) (.cond (.dead) (.nil)))) (.nil))))),kcast (by kernel_rfl) (Sp ((!(decide (l.length≤500)))=true) (fun h1=>(Eq.refl true)) (fun h2=>have hl5:=(nd' h2:l.length≤500);I (⟨by omega,he0⟩:Bnd (.sl (.int .i64)) (.s 1048576 (.n 9223372036854775808)) l) (I (A9 _:Bnd tMsh bMs2 (jc (qK (l,0)))) (I (Nat.zero_le _:0≤2) (fun(i:Nat)(hb3:HB [.s 26 (.nat .i64) (.n 3)] i)(hI:i≤2)=>have hv12:=(show i≤3 from hb3);have hml:=(show([jc (l,0),oddV (qK (qK (l,0))) (jc (qK (l,0)))]:List Msh).length=2 from rfl);Sp (i<[jc (l,0),oddV (qK (qK (l,0))) (jc (qK (l,0)))].length) (fun h4=>I (by(try simp only[List.length_append,List.length_cons,List.length_nil])<;>omega:i<[jc (l,0),oddV (qK (qK (l,0))) (jc (qK (l,0)))].length) (I ((SE (Bnd.mono (show bMs2.le bMsh=true by decide) (A9 _)) (Je (A9 _)) (by omega)):Bnd tMsh bMsh ([jc (l,0),oddV (qK (qK (l,0))) (jc (qK (l,0)))].getD i ([],([],[])))) (I ((SE (Bnd.mono (show bMs2.le bMsh=true by decide) (A9 _)) (Je (A9 _)) (by omega)):Bnd tMsh bMsh ([jc (l,0),oddV (qK (qK (l,0))) (jc (qK (l,0)))].getD i ([],([],[])))) (Sp ((metP ([jc (l,0),oddV (qK (qK (l,0))) (jc (qK (l,0)))].getD i ([],([],[])))).1≠(metR ([jc (l,0),oddV (qK (qK (l,0))) (jc (qK (l,0)))].getD i ([],([],[])))).1) (fun h5=>(h5 (by rw[EF]):False)) (fun h6=>Sp ((metP ([jc (l,0),oddV (qK (qK (l,0))) (jc (qK (l,0)))].getD i ([],([],[])))).2.1≠(metR ([jc (l,0),oddV (qK (qK (l,0))) (jc (qK (l,0)))].getD i ([],([],[])))).2.1) (fun h7=>(h7 (by rw[EF]):False)) (fun h8=>Sp (((metP ([jc (l,0),oddV (qK (qK (l,0))) (jc (qK (l,0)))].getD i ([],([],[])))).2.2)≠((metR ([jc (l,0),oddV (qK (qK (l,0))) (jc (qK (l,0)))].getD i ([],([],[])))).2.2)) (fun h9=>(h9 (by rw[EF]):False)) (fun h10=>I (show(i+1)≤3 by omega:Bnd (.nat .i64) (.n 3) (i+1)) (And.intro (?_:(i+1)≤2) (?_:2-(i+1)<2-i))))))))) (fun h11=>(Eq.refl true)))))))⟩<;>omega)
abbrev Qg(b:List Bd)(l:List Int):WV:= .c (.one (.dt .bool .u true))
theorem lmmeet_sig(l:List Int)(hx:Bnds [(.sl (.int .i64))] [(.s 9223372036854775807 (.n 9223372036854775808))] l)(hp: ∀c0∈([]:List Prop),c0):Sig Tryz.prog 5 (argsE [(.sl (.int .i64))] l) (Qg [(.s 9223372036854775807 (.n 9223372036854775808))] l).exp:=Qi.sig l hx hp
end Go.Proofs.YtchgnllhbcadpaaGreat.Sx
