/-
Own laws and walks for the claim, part 25: KzS1, KzT2, KzL, KzVA. No condition.
-/
import Derived.Test.YtogldgcllamhcaaGreatP24
import Derived.Test.YtogldgcllamhcaaGreatProg
import Derived.KernelRfl
import Derived.Test.YtogldgcllamhcaaGreatP9
import Derived.Test.YtogldgcllamhcaaGreatP10
import Derived.Test.YtogldgcllamhcaaGreatP11
import Derived.Test.YtogldgcllamhcaaGreatP12
import Derived.Test.YtogldgcllamhcaaGreatP13
import Derived.Test.YtogldgcllamhcaaGreatP14
import Derived.Test.YtogldgcllamhcaaGreatP15
import Derived.Test.YtogldgcllamhcaaGreatP16
import Derived.Test.YtogldgcllamhcaaGreatP17
import Derived.Test.YtogldgcllamhcaaGreatP18
import Derived.Test.YtogldgcllamhcaaGreatP19
import Derived.Test.YtogldgcllamhcaaGreatP20
import Derived.Test.YtogldgcllamhcaaGreatP21
import Derived.Test.YtogldgcllamhcaaGreatP22
import Derived.Test.YtogldgcllamhcaaGreatP23
namespace Go.Proofs.YtogldgcllamhcaaGreat.Sx.Kx
open Go
set_option linter.unusedVariables false
set_option linter.unusedSimpArgs false
theorem run_e:runE=true:=by kernel_rfl
theorem run_g:runG=true:=by kernel_rfl
theorem YT:HN 137 mmo0=true:=by kernel_rfl
theorem YU:HN 47 mmo1=true:=by kernel_rfl
theorem YV:HN 68 mmo2=true:=by kernel_rfl
noncomputable section
def UM(P:Program)(fn:Func):Bool:=match fn.body with|some c=>zl P c|none=>true
def UL(P:Program):Bool:=P.funcs.toList.all (UM P)
theorem Hc{P:Program}(h:UL P=true): ∀(f:FuncId) fn c,P.funcs[f]?=some fn→fn.body=some c→zl P c=true:=by
 intro f fn c hf hc
 have hm:fn∈P.funcs.toList:=by
  obtain⟨h1,h2⟩:=Array.getElem?_eq_some_iff.1 hf
  rw[←h2]
  exact Array.mem_toList_iff.2 (Array.getElem_mem h1)
 have h3:=List.all_eq_true.1 h fn hm
 unfold UM at h3
 rw[hc]at h3
 exact h3
theorem CE:UL Go.Proofs.Tryz.prog=true:=by kernel_rfl
end
noncomputable section
theorem WF:runE=okB ((Ak Go.Proofs.Tryz.prog (prims tbA) locT 60).call 5 (ji []).c0 ([]:List V).length stE):=by
 unfold runE
 rw[show([]:List V).length=0 from rfl]
theorem WH{l:List (Nat×Nat)}:runL l=okB ((Ak Go.Proofs.Tryz.prog (prims tbF) locT 60).call 3 (ji [.dl]).c0 [V.dl].length (stC l)):=by
 unfold runL
 rw[show[V.dl].length=1 from rfl]
theorem WG:runG=okB ((Ak Go.Proofs.Tryz.prog (prims tbG) locT 60).call 3 (ji [.dl]).c0 [V.dl].length (stC [])):=by
 unfold runG
 rw[show[V.dl].length=1 from rfl]
section
variable {D:List Int}
theorem S8(hm:Go.Proofs.Tryz.prog.follows .mixedOrders=true):qW D Go.Proofs.Tryz.prog 5 (qY .tru):=by
 obtain⟨s1,h1⟩:=Md (WF.symm.trans run_e)
 have hc:=DA (D:=D) (P:=Go.Proofs.Tryz.prog) (pr:=prims tbA) (tb:=locT) (n:=60) (f:=5) (vs:=[]) (Hc CE) (Eb MM) hm h1 (fun x hx=>by cases hx) (Dn D)
 exact q0b hc
theorem Yb{v:V}{r:RO}(h:okV v r=true): ∃s',r= .ok v s':=by
 cases r with
 |no t=>cases h
 |need n=>cases h
 |ok u s'=>
  have h:bqV u v=true:=h
  rw[QB h];exact⟨s',rfl⟩
theorem M5(hm:Go.Proofs.Tryz.prog.follows .mixedOrders=true){f:FuncId}{L:List (List V×V)}(h:HN f L=true):qW D Go.Proofs.Tryz.prog f (qY (.memo L)):=by
 have key: ∀p∈L,(∃s1,CallOk D Go.Proofs.Tryz.prog f p.1 stE p.2 s1)∧p.1.all B9=true∧C7 p.2=true:=by
  induction L with
  |nil=>intro p hp;cases hp
  |cons q r ih=>
   have h: @Bool.rec (fun _=>Bool) false (HN f r) (okV q.2 ((Ak Go.Proofs.Tryz.prog (prims tbA) locT 60).call f (ji q.1).c0 q.1.length stE)&&(q.1.all B9&&C7 q.2&&q.1.all argB))=true:=h
   cases hb:(okV q.2 ((Ak Go.Proofs.Tryz.prog (prims tbA) locT 60).call f (ji q.1).c0 q.1.length stE)&&(q.1.all B9&&C7 q.2&&q.1.all argB))with
   |false=>rw[hb]at h;cases h
   |true=>
    rw[hb]at h
    simp only[q0P]at hb
    obtain⟨h1,⟨h2,h3⟩,h4⟩:=hb
    intro p hp
    rcases q1h.1 hp with rfl|hp
    ·obtain⟨s1,h5⟩:=Yb h1
     exact⟨⟨s1,DA (D:=D) (P:=Go.Proofs.Tryz.prog) (pr:=prims tbA) (tb:=locT) (n:=60) (Hc CE) (Eb MM) hm h5 (fun x hx=>UZ (List.all_eq_true.1 h4 x hx)) (Dn D)⟩,h2,h3⟩
    ·exact ih h p hp
 exact Ye (fun p hp=>(key p hp).1) fun p hp=>(key p hp).2
theorem Z2(hm:Go.Proofs.Tryz.prog.follows .mixedOrders=true): ∀p∈tbM,qW D Go.Proofs.Tryz.prog p.1 (qY p.2):=fun p hp=>by
 unfold tbM at hp
 rcases q1h.1 hp with rfl|hp
 ·exact M5 hm YT
 rcases q1h.1 hp with rfl|hp
 ·exact M5 hm YU
 rcases q1h.1 hp with rfl|hp
 ·exact M5 hm YV
 exact MM p hp
theorem Z0(hm:Go.Proofs.Tryz.prog.follows .mixedOrders=true)(hD:DOk D)(hl:D.length≤500):Ex D Go.Proofs.Tryz.prog (prims tbF):=Eb fun p hp=>by
 unfold tbF at hp
 rcases q1h.1 hp with rfl|hp
 ·have h:=Mu (D:=D) ⟨q1H hD.1 (by decide),hD.2⟩
  rwa [decide_eq_true hl]at h
 rcases q1h.1 hp with rfl|hp
 ·exact We hD
 rcases q1h.1 hp with rfl|hp
 ·exact Wd hD
 rcases q1h.1 hp with rfl|hp
 ·exact S8 hm
 exact Z2 hm p hp
theorem Z1(hm:Go.Proofs.Tryz.prog.follows .mixedOrders=true)(hD:Bnd (.sl (.int .i64)) (.s 9223372036854775807 (.n 9223372036854775808)) D)(hl: ¬D.length≤500):Ex D Go.Proofs.Tryz.prog (prims tbG):=Eb fun p hp=>by
 unfold tbG at hp
 rcases q1h.1 hp with rfl|hp
 ·have h:=Mu hD
  rwa [decide_eq_false hl]at h
 rcases q1h.1 hp with rfl|hp
 ·exact S8 hm
 cases hp
theorem OV{f:FuncId}{P:Program}{sc:List (Nat×Nat)}{s1:S}(h:CallOk D P f [.dl] (stC sc) (.bb true) s1):Sig P f (argsE [.sl (.int .i64)] D) (.c (.one (.val (.bool true)))):=by
 refine⟨h.callable,fun us w H β hargs _ _ hon=>?_⟩
 have hargs:AVs β H [argC (.sl (.int .i64)) D] us:=hargs
 rw[Gs]at hargs
 have ha:AVs (fun _=>none) H ([V.dl].map (qk D)) us:=by
  match us,hargs with
  |[],h=>exact h.elim
  |[u],⟨h1,_⟩=>exact⟨h1,trivial⟩
  |_::_::_,⟨_,h⟩=>exact h.elim
 have hn: ∀k b,mget (stC sc).m k=some b→False:=fun k b hb=>by rw[show(stC sc).m=mnew from rfl,A3]at hb;cases hb
 refine Calls.mono (h.calls us w H (fun _=>none) ha ⟨fun k b hb=>(hn k b hb).elim,fun k b hb=>(hn k b hb).elim,fun k k' b b' hb=>(hn k b hb).elim⟩ hon fun _ _ _=>rfl) ?_
 rintro e w' ⟨v,H',β',rfl,hst,hsat,_⟩
 have hkeep: ∀b,b<w.heap.size→w'.heap[b]?=w.heap[b]?:=fun b hb=>hst.keep b hb fun k hk=>by
  cases hk2:mget (stC sc).m k with
  |none=>exact absurd hk2 hk
  |some b2=>exact(hn k b2 hk2).elim
 exact⟨v,H',β,rfl,⟨hst.os,hst.tape,hst.output,hst.size,fun b hb _=>hkeep b hb,hst.hle,hst.hnew,hst.hon,fun _ _=>rfl,fun k hk=>by simp[qw]at hk,fun k hk=>by simp[qw]at hk⟩,hsat,fun k b hb=>by simp at hb⟩
end
end
theorem UX{a b:Bool}(h:andR a b=true):a=true∧b=true:=by
 cases a with
 |false=>cases h
 |true=>exact⟨rfl,h⟩
theorem up{a n:Nat}(h:Q a n)(k: ∀b,b<a→ ∀y,runL (scr b y)=true): ∀b,b<a+n→ ∀y,runL (scr b y)=true:=fun b hb y=>by
 by_cases e:b<a
 ·exact k b e y
 ·have key: ∀n a,rg y n a=true→ ∀b,a≤b→b<a+n→runL (scr b y)=true:=by
   intro n
   induction n with
   |zero=>intro a _ b h1 h2;omega
   |succ n ih=>
    intro a hr b h1 h2
    obtain⟨h3,h4⟩:=UX (show andR (runL (scr a y)) (rg y n (Nat.succ a))=true from hr)
    by_cases e:b=a
    ·rw[e];exact h3
    ·exact ih (Nat.succ a) h4 b (by show a+1≤b;omega) (by show b<a+1+n;omega)
  exact key n a (h y) b (by omega) hb
theorem ZG: ∀b,b<512→ ∀y,runL (scr b y)=true:=up k119 (up k118 (up k117 (up k116 (up k115 (up k114 (up k113 (up k112 (up k111 (up k110 (up k109 (up k108 (up k107 (up k106 (up k105 (up k104 (up k103 (up k102 (up k101 (up k100 (up k99 (up k98 (up k97 (up k96 (up k95 (up k94 (up k93 (up k92 (up k91 (up k90 (up k89 (up k88 (up k87 (up k86 (up k85 (up k84 (up k83 (up k82 (up k81 (up k80 (up k79 (up k78 (up k77 (up k76 (up k75 (up k74 (up k73 (up k72 (up k71 (up k70 (up k69 (up k68 (up k67 (up k66 (up k65 (up k64 (up k63 (up k62 (up k61 (up k60 (up k59 (up k58 (up k57 (up k56 (up k55 (up k54 (up k53 (up k52 (up k51 (up k50 (up k49 (up k48 (up k47 (up k46 (up k45 (up k44 (up k43 (up k42 (up k41 (up k40 (up k39 (up k38 (up k37 (up k36 (up k35 (up k34 (up k33 (up k32 (up k31 (up k30 (up k29 (up k28 (up k27 (up k26 (up k25 (up k24 (up k23 (up k22 (up k21 (up k20 (up k19 (up k18 (up k17 (up k16 (up k15 (up k14 (up k13 (up k12 (up k11 (up k10 (up k9 (up k8 (up k7 (up k6 (up k5 (up k4 (up k3 (up k2 (up k1 (up k0 (fun j h=>absurd h (Nat.not_lt_zero j)))))))))))))))))))))))))))))))))))))))))))))))))))))))))))))))))))))))))))))))))))))))))))))))))))))))))))))))))))))))))
def cb(x:Nat):Nat:=if x=0 then 0 else 1
theorem Bk(x:Nat):cb x≤1:=by unfold cb;split<;>omega
theorem Bj{b p x:Nat}(h:b/p%2=cb x):bt b p (x-1)=x:=by
 unfold bt
 rw[show Nat.mod (Nat.div b p) 2=cb x from h]
 unfold cb
 by_cases e:x=0
 ·rw[if_pos e,e];rfl
 ·rw[if_neg e]
  show Nat.succ (x-1)=x
  omega
theorem YY(x:Nat→Nat): ∃b,b<512∧scr b (fun i=>x i-1)=[(3,x 0),(3,x 1),(3,x 2),(3,x 3),(3,x 4),(3,x 5),(3,x 6),(3,x 7),(3,x 8)]:=by
 have h0:=Bk (x 0);have h1:=Bk (x 1);have h2:=Bk (x 2);have h3:=Bk (x 3);have h4:=Bk (x 4);have h5:=Bk (x 5);have h6:=Bk (x 6);have h7:=Bk (x 7);have h8:=Bk (x 8)
 refine⟨cb (x 0)+2*cb (x 1)+4*cb (x 2)+8*cb (x 3)+16*cb (x 4)+32*cb (x 5)+64*cb (x 6)+128*cb (x 7)+256*cb (x 8),by omega,?_⟩
 unfold scr
 rw[Bj (x:=x 0) (by omega),Bj (x:=x 1) (by omega),Bj (x:=x 2) (by omega),Bj (x:=x 3) (by omega),Bj (x:=x 4) (by omega),Bj (x:=x 5) (by omega),Bj (x:=x 6) (by omega),Bj (x:=x 7) (by omega),Bj (x:=x 8) (by omega)]
section
variable {D:List Int}
theorem lloop_sig(l:List Int)(hx:Bnds [.sl (.int .i64)] [(.s 9223372036854775807 (.n 9223372036854775808))] l)(hp: ∀c0∈([]:List Prop),c0):Sig Tryz.prog 3 (argsE [.sl (.int .i64)] l) (WV.c (.one (.dt .bool .u true))).exp:=by
 have hD:=Bnds.h1 hx
 have hm:=hmix
 show Sig Tryz.prog 3 (argsE [.sl (.int .i64)] l) (.c (.one (.val (.bool true))))
 by_cases hl:l.length≤500
 ·obtain⟨b,hb,e⟩:=YY (fun i=>outc l i 3)
  have hr:=ZG b hb (fun i=>outc l i 3-1)
  rw[e]at hr
  obtain⟨s',hs'⟩:=Md (WH.symm.trans hr)
  have hsok:SOK l (stC [(3,outc l 0 3),(3,outc l 1 3),(3,outc l 2 3),(3,outc l 3 3),(3,outc l 4 3),(3,outc l 5 3),(3,outc l 6 3),(3,outc l 7 3),(3,outc l 8 3)]):=by
   refine⟨(Dn l).ok,(Dn l).lt,fun j p h=>?_⟩
   have h:[(3,outc l 0 3),(3,outc l 1 3),(3,outc l 2 3),(3,outc l 3 3),(3,outc l 4 3),(3,outc l 5 3),(3,outc l 6 3),(3,outc l 7 3),(3,outc l 8 3)][j]?=some p:=h
   match j,h with
   |0,h=>cases h;rfl
   |1,h=>cases h;rfl
   |2,h=>cases h;rfl
   |3,h=>cases h;rfl
   |4,h=>cases h;rfl
   |5,h=>cases h;rfl
   |6,h=>cases h;rfl
   |7,h=>cases h;rfl
   |8,h=>cases h;rfl
   |j+9,h=>simp at h
  exact OV (DA (D:=l) (P:= Tryz.prog) (pr:=prims tbF) (tb:=locT) (n:=60) (f:=3) (vs:=[V.dl]) (Hc CE) (Z0 hm ⟨q1H hl (by decide),hD.2⟩ hl) hm hs' (fun x hx=>by simp at hx;subst hx;exact⟨trivial,by simp⟩) hsok)
 ·obtain⟨s',hs'⟩:=Md (WG.symm.trans run_g)
  exact OV (DA (D:=l) (P:= Tryz.prog) (pr:=prims tbG) (tb:=locT) (n:=60) (f:=3) (vs:=[V.dl]) (Hc CE) (Z1 hm hD hl) hm hs' (fun x hx=>by simp at hx;subst hx;exact⟨trivial,by simp⟩) (Dn l))
end
end Go.Proofs.YtogldgcllamhcaaGreat.Sx.Kx
