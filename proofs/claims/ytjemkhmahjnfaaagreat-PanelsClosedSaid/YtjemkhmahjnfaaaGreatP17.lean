/-
Own laws and walks for the claim, part 17: KzS1, KzT2, KzL, KzVA. No condition.
-/
import Derived.Test.YtjemkhmahjnfaaaGreatP16
import Derived.Test.YtjemkhmahjnfaaaGreatProg
import Derived.KernelRfl
import Derived.Test.YtjemkhmahjnfaaaGreatP9
import Derived.Test.YtjemkhmahjnfaaaGreatP10
import Derived.Test.YtjemkhmahjnfaaaGreatP11
import Derived.Test.YtjemkhmahjnfaaaGreatP12
import Derived.Test.YtjemkhmahjnfaaaGreatP13
import Derived.Test.YtjemkhmahjnfaaaGreatP14
import Derived.Test.YtjemkhmahjnfaaaGreatP15
namespace Go.Proofs.YtjemkhmahjnfaaaGreat.Sx.Kx
open Go
set_option linter.unusedVariables false
set_option linter.unusedSimpArgs false
theorem run_e:runE=true:=by kernel_rfl
theorem run_g:runG=true:=by kernel_rfl
noncomputable section
def UG(P:Program)(fn:Func):Bool:=match fn.body with|some c=>zq P c|none=>true
def UF(P:Program):Bool:=P.funcs.toList.all (UG P)
theorem KO{P:Program}(h:UF P=true): ∀(f:FuncId) fn c,P.funcs[f]?=some fn→fn.body=some c→zq P c=true:=by
 intro f fn c hf hc
 have hm:fn∈P.funcs.toList:=by
  obtain⟨h1,h2⟩:=Array.getElem?_eq_some_iff.1 hf
  rw[←h2]
  exact Array.mem_toList_iff.2 (Array.getElem_mem h1)
 have h3:=List.all_eq_true.1 h fn hm
 unfold UG at h3
 rw[hc]at h3
 exact h3
theorem Ff:UF Go.Proofs.Tryz.prog=true:=by kernel_rfl
end
noncomputable section
theorem G0(D:List Int)(j:Nat){n:Nat}(hn:0<n):outc D j n<n:=by
 unfold outc
 split
 ·rename_i z _
  have h1:=Int.emod_nonneg z (show(n:Int)≠0 by omega)
  have h2:=Int.emod_lt_of_pos z (show(0:Int)<n by omega)
  omega
 ·exact hn
theorem Wt:runE=okB ((Ci Go.Proofs.Tryz.prog (prims tbA) locT 60).call 6 (ju []).c0 ([]:List V).length stE):=by
 unfold runE
 rw[show([]:List V).length=0 from rfl]
theorem Wv{l:List (Nat×Nat)}:jd l=okB ((Ci Go.Proofs.Tryz.prog (prims tbF) locT 60).call 4 (ju [.dl]).c0 [V.dl].length (stC l)):=by
 unfold jd
 rw[show[V.dl].length=1 from rfl]
theorem Wu:runG=okB ((Ci Go.Proofs.Tryz.prog (prims tbG) locT 60).call 4 (ju [.dl]).c0 [V.dl].length (stC [])):=by
 unfold runG
 rw[show[V.dl].length=1 from rfl]
section
variable {D:List Int}
theorem S1(hm:Go.Proofs.Tryz.prog.follows .mixedOrders=true):qM D Go.Proofs.Tryz.prog 6 (qR .tru):=by
 obtain⟨s1,h1⟩:=M9 (Wt.symm.trans run_e)
 have hc:=Gv (D:=D) (P:=Go.Proofs.Tryz.prog) (pr:=prims tbA) (tb:=locT) (n:=60) (f:=6) (vs:=[]) (KO Ff) (GQ Sd) hm h1 (fun x hx=>by cases hx) (G9 D)
 exact q0O hc
theorem ZD(hm:Go.Proofs.Tryz.prog.follows .mixedOrders=true)(hD:DOk D)(hl:D.length≤500):Eu D Go.Proofs.Tryz.prog (prims tbF):=GQ fun p hp=>by
 unfold tbF at hp
 rcases q22.1 hp with rfl|hp
 ·have h:=pk_5 (D:=D) ⟨q2s hD.1 (by decide),hD.2⟩
  rwa [decide_eq_true hl]at h
 rcases q22.1 hp with rfl|hp
 ·exact pk_7 hD
 rcases q22.1 hp with rfl|hp
 ·exact q0P hD
 rcases q22.1 hp with rfl|hp
 ·exact S1 hm
 exact Sd p hp
theorem ZE(hm:Go.Proofs.Tryz.prog.follows .mixedOrders=true)(hD:Bnd (.sl (.int .i64)) (.s 9223372036854775807 (.n 9223372036854775808)) D)(hl: ¬D.length≤500):Eu D Go.Proofs.Tryz.prog (prims tbG):=GQ fun p hp=>by
 unfold tbG at hp
 rcases q22.1 hp with rfl|hp
 ·have h:=pk_5 hD
  rwa [decide_eq_false hl]at h
 rcases q22.1 hp with rfl|hp
 ·exact S1 hm
 cases hp
theorem ON{f:FuncId}{P:Program}{sc:List (Nat×Nat)}{s1:S}(h:CallOk D P f [.dl] (stC sc) (.bb true) s1):Sig P f (argsE [.sl (.int .i64)] D) (.c (.one (.val (.bool true)))):=by
 refine⟨h.callable,fun us w H β hargs _ _ hon=>?_⟩
 have hargs:AVs β H [argC (.sl (.int .i64)) D] us:=hargs
 rw[Gu]at hargs
 have ha:AVs (fun _=>none) H ([V.dl].map (qm D)) us:=by
  match us,hargs with
  |[],h=>exact h.elim
  |[u],⟨h1,_⟩=>exact⟨h1,trivial⟩
  |_::_::_,⟨_,h⟩=>exact h.elim
 have hn: ∀k b,mget (stC sc).m k=some b→False:=fun k b hb=>by rw[show(stC sc).m=mnew from rfl,A9]at hb;cases hb
 refine Calls.mono (h.calls us w H (fun _=>none) ha ⟨fun k b hb=>(hn k b hb).elim,fun k b hb=>(hn k b hb).elim,fun k k' b b' hb=>(hn k b hb).elim⟩ hon fun _ _ _=>rfl) ?_
 rintro e w' ⟨v,H',β',rfl,hst,hsat,_⟩
 have hkeep: ∀b,b<w.heap.size→w'.heap[b]?=w.heap[b]?:=fun b hb=>hst.keep b hb fun k hk=>by
  cases hk2:mget (stC sc).m k with
  |none=>exact absurd hk2 hk
  |some b2=>exact(hn k b2 hk2).elim
 exact⟨v,H',β,rfl,⟨hst.os,hst.tape,hst.output,hst.size,fun b hb _=>hkeep b hb,hst.hle,hst.hnew,hst.hon,fun _ _=>rfl,fun k hk=>by simp[qw]at hk,fun k hk=>by simp[qw]at hk⟩,hsat,fun k b hb=>by simp at hb⟩
theorem Nq(hm:Go.Proofs.Tryz.prog.follows .mixedOrders=true)(hall: ∀a b c n,a<4→b<2→c<2→n<3→jd [(4,a),(2,b),(2,c),(3,n)]=true)
  (hD:Bnd (.sl (.int .i64)) (.s 9223372036854775807 (.n 9223372036854775808)) D):Sig Go.Proofs.Tryz.prog 4 (argsE [.sl (.int .i64)] D) (.c (.one (.val (.bool true)))):=by
 by_cases hl:D.length≤500
 ·obtain⟨s',hs'⟩:=M9 (Wv.symm.trans (hall (outc D 0 4) (outc D 1 2) (outc D 2 2) (outc D 3 3) (G0 D 0 (by decide)) (G0 D 1 (by decide)) (G0 D 2 (by decide)) (G0 D 3 (by decide))))
  have hsok:SOK D (stC [(4,outc D 0 4),(2,outc D 1 2),(2,outc D 2 2),(3,outc D 3 3)]):=by
   refine⟨(G9 D).ok,(G9 D).lt,fun j p h=>?_⟩
   have h:[(4,outc D 0 4),(2,outc D 1 2),(2,outc D 2 2),(3,outc D 3 3)][j]?=some p:=h
   match j,h with
   |0,h=>cases h;rfl
   |1,h=>cases h;rfl
   |2,h=>cases h;rfl
   |3,h=>cases h;rfl
   |j+4,h=>simp at h
  exact ON (Gv (D:=D) (P:=Go.Proofs.Tryz.prog) (pr:=prims tbF) (tb:=locT) (n:=60) (f:=4) (vs:=[V.dl]) (KO Ff) (ZD hm ⟨q2s hl (by decide),hD.2⟩ hl) hm hs' (fun x hx=>by simp at hx;subst hx;exact⟨trivial,by simp⟩) hsok)
 ·obtain⟨s',hs'⟩:=M9 (Wu.symm.trans run_g)
  exact ON (Gv (D:=D) (P:=Go.Proofs.Tryz.prog) (pr:=prims tbG) (tb:=locT) (n:=60) (f:=4) (vs:=[V.dl]) (KO Ff) (ZE hm hD hl) hm hs' (fun x hx=>by simp at hx;subst hx;exact⟨trivial,by simp⟩) (G9 D))
end
end
theorem q0p(a b c n:Nat)(ha:a<4)(hb:b<2)(hc:c<2)(hn:n<3):jd [(4,a),(2,b),(2,c),(3,n)]=true:=by
 rcases(show a=0∨a=1∨a=2∨a=3 by omega)with rfl|rfl|rfl|rfl<;>rcases(show b=0∨b=1 by omega)with rfl|rfl<;>rcases(show c=0∨c=1 by omega)with rfl|rfl<;>rcases(show n=0∨n=1∨n=2 by omega)with rfl|rfl|rfl
 ·exact Xp
 ·exact Xq
 ·exact Xr
 ·exact Xs
 ·exact Xt
 ·exact Xu
 ·exact Xv
 ·exact Xw
 ·exact Xx
 ·exact Xy
 ·exact Xz
 ·exact XA
 ·exact XB
 ·exact XC
 ·exact XD
 ·exact XE
 ·exact XF
 ·exact XG
 ·exact XH
 ·exact XI
 ·exact XJ
 ·exact XK
 ·exact XL
 ·exact XM
 ·exact XN
 ·exact XO
 ·exact XP
 ·exact XQ
 ·exact XR
 ·exact XS
 ·exact XT
 ·exact XU
 ·exact XW
 ·exact XX
 ·exact XY
 ·exact XZ
 ·exact Y0
 ·exact Y1
 ·exact Y2
 ·exact Y3
 ·exact Y4
 ·exact Y5
 ·exact Y6
 ·exact Y7
 ·exact Y8
 ·exact Y9
 ·exact Ya
 ·exact Yb
theorem lclos_sig(l:List Int)(hx:Bnds [.sl (.int .i64)] [(.s 9223372036854775807 (.n 9223372036854775808))] l)(hp: ∀c0∈([]:List Prop),c0):Sig Tryz.prog 4 (argsE [.sl (.int .i64)] l) (WV.c (.one (.dt .bool .u true))).exp:=
 Nq hmix q0p (Bnds.h1 hx)
end Go.Proofs.YtjemkhmahjnfaaaGreat.Sx.Kx
