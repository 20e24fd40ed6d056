/-
Own laws and walks for the claim, part 28: KzS1, KzT2, KzL, KzVA. No condition.
-/
import Derived.Test.YtjemkhmahjnfaaaGreatM27
import Derived.Test.YtjemkhmahjnfaaaGreatProg
import Derived.KernelRfl
import Derived.Test.YtjemkhmahjnfaaaGreatM8
import Derived.Test.YtjemkhmahjnfaaaGreatM9
import Derived.Test.YtjemkhmahjnfaaaGreatM10
import Derived.Test.YtjemkhmahjnfaaaGreatM11
import Derived.Test.YtjemkhmahjnfaaaGreatM12
import Derived.Test.YtjemkhmahjnfaaaGreatM13
import Derived.Test.YtjemkhmahjnfaaaGreatM14
import Derived.Test.YtjemkhmahjnfaaaGreatM15
import Derived.Test.YtjemkhmahjnfaaaGreatM16
import Derived.Test.YtjemkhmahjnfaaaGreatM17
import Derived.Test.YtjemkhmahjnfaaaGreatM18
import Derived.Test.YtjemkhmahjnfaaaGreatM19
import Derived.Test.YtjemkhmahjnfaaaGreatM20
import Derived.Test.YtjemkhmahjnfaaaGreatM21
import Derived.Test.YtjemkhmahjnfaaaGreatM22
import Derived.Test.YtjemkhmahjnfaaaGreatM23
import Derived.Test.YtjemkhmahjnfaaaGreatM24
import Derived.Test.YtjemkhmahjnfaaaGreatM25
import Derived.Test.YtjemkhmahjnfaaaGreatM26
namespace Go.Proofs.YtjemkhmahjnfaaaGreat.Sx.Kx
open Go
set_option linter.unusedVariables false
set_option linter.unusedSimpArgs false
theorem run_e:runE=true:=by kernel_rfl
theorem run_g:runG=true:=by kernel_rfl
theorem YK:Ac 220 mms0=true:=by kernel_rfl
theorem YL:Ac 240 mms1=true:=by kernel_rfl
theorem YM:Ac 123 mms2=true:=by kernel_rfl
theorem YN:Ac 184 mms3=true:=by kernel_rfl
theorem YO:Ac 248 mms4=true:=by kernel_rfl
theorem YP:Ac 191 mms5=true:=by kernel_rfl
theorem YQ:Ac 62 mms6=true:=by kernel_rfl
theorem YR:Ac 114 mms7=true:=by kernel_rfl
theorem YJ:PD 189 mmo0=true:=by kernel_rfl
noncomputable section
def UB(P:Program)(fn:Func):Bool:=match fn.body with|some c=>z9 P c|none=>true
def UA(P:Program):Bool:=P.funcs.toList.all (UB P)
theorem Eg{P:Program}(h:UA P=true): ∀(f:FuncId) fn c,P.funcs[f]?=some fn→fn.body=some c→z9 P c=true:=by
 intro f fn c hf hc
 have hm:fn∈P.funcs.toList:=by
  obtain⟨h1,h2⟩:=Array.getElem?_eq_some_iff.1 hf
  rw[←h2]
  exact Array.mem_toList_iff.2 (Array.getElem_mem h1)
 have h3:=List.all_eq_true.1 h fn hm
 unfold UB at h3
 rw[hc]at h3
 exact h3
theorem B7:UA Go.Proofs.Tryz.prog=true:=by kernel_rfl
end
noncomputable section
theorem VN(D:List Int)(j:Nat){n:Nat}(hn:0<n):outc D j n<n:=by
 unfold outc
 split
 ·rename_i z _
  have h1:=Int.emod_nonneg z (show(n:Int)≠0 by omega)
  have h2:=Int.emod_lt_of_pos z (show(0:Int)<n by omega)
  omega
 ·exact hn
theorem Wb:runE=okB ((wg Go.Proofs.Tryz.prog (prims tbA) locT 60).call 6 (j9 []).c0 ([]:List V).length stE):=by
 unfold runE
 rw[show([]:List V).length=0 from rfl]
theorem Wd{l:List (Nat×Nat)}:runL l=okB ((wg Go.Proofs.Tryz.prog (prims tbF) locT 60).call 3 (j9 [.dl]).c0 [V.dl].length (stC l)):=by
 unfold runL
 rw[show[V.dl].length=1 from rfl]
theorem Wc:runG=okB ((wg Go.Proofs.Tryz.prog (prims tbG) locT 60).call 3 (j9 [.dl]).c0 [V.dl].length (stC [])):=by
 unfold runG
 rw[show[V.dl].length=1 from rfl]
section
variable {D:List Int}
theorem RM(hm:Go.Proofs.Tryz.prog.follows .mixedOrders=true):qw D Go.Proofs.Tryz.prog 6 (qx .tru):=by
 obtain⟨s1,h1⟩:=LX (Wb.symm.trans run_e)
 have hc:=BG (D:=D) (P:=Go.Proofs.Tryz.prog) (pr:=prims tbA) (tb:=locT) (n:=60) (f:=6) (vs:=[]) (Eg B7) (BX Ia) hm h1 (fun x hx=>by cases hx) (Df D)
 exact q05 hc
theorem XM{v:V}{r:RO}(h:okV v r=true): ∃s',r= .ok v s':=by
 cases r with
 |no t=>cases h
 |need n=>cases h
 |ok u s'=>
  have h:bqV u v=true:=h
  rw[Ep h];exact⟨s',rfl⟩
theorem XE(hm:Go.Proofs.Tryz.prog.follows .mixedOrders=true){f:FuncId}{L:List (List V×V)}(h:PD f L=true):qw D Go.Proofs.Tryz.prog f (qx (.memo L)):=by
 have key: ∀p∈L,(∃s1,CallOk D Go.Proofs.Tryz.prog f p.1 stE p.2 s1)∧p.1.all zZ=true∧wC p.2=true:=by
  induction L with
  |nil=>intro p hp;cases hp
  |cons q r ih=>
   have h: @Bool.rec (fun _=>Bool) false (PD f r) (okV q.2 ((wg Go.Proofs.Tryz.prog (prims tbA) locT 60).call f (j9 q.1).c0 q.1.length stE)&&(q.1.all zZ&&wC q.2&&q.1.all argB))=true:=h
   cases hb:(okV q.2 ((wg Go.Proofs.Tryz.prog (prims tbA) locT 60).call f (j9 q.1).c0 q.1.length stE)&&(q.1.all zZ&&wC q.2&&q.1.all argB))with
   |false=>rw[hb]at h;cases h
   |true=>
    rw[hb]at h
    simp only[q0Q]at hb
    obtain⟨h1,⟨h2,h3⟩,h4⟩:=hb
    intro p hp
    rcases q1i.1 hp with rfl|hp
    ·obtain⟨s1,h5⟩:=XM h1
     exact⟨⟨s1,BG (D:=D) (P:=Go.Proofs.Tryz.prog) (pr:=prims tbA) (tb:=locT) (n:=60) (Eg B7) (BX Ia) hm h5 (fun x hx=>Nq (List.all_eq_true.1 h4 x hx)) (Df D)⟩,h2,h3⟩
    ·exact ih h p hp
 exact XR (fun p hp=>(key p hp).1) fun p hp=>(key p hp).2
theorem EW{l:List V}(h:l.all qqB=true):l.all zY=true∧okE 3 l:=by
 refine⟨List.all_eq_true.2 fun x hx=>?_,fun x hx=>?_⟩<;>have h1:=List.all_eq_true.1 h x hx<;>cases x<;>first|(simp[qqB]at h1;done)|skip
 ·rfl
 ·rename_i s n d
  exact⟨(Io (v:= .qq s n d) h1).2,rfl⟩
theorem LP{e:ME}(h:e.l.all qqB=true)(h3:e.es=3):(meB e).ok:=by
 have e1:Sq.toL V.und (Sq.pushL .e 0 e.l) 0 e.l.length=e.l:=wt _ _
 have e2:Br (Sq.pushL .e 0 e.l) e.l.length:=by have:=Br.pushL (l:=e.l) (Br.e (α:=V));rwa [q22]at this
 unfold meB
 cases e.g with
 |false=>exact⟨e2,by rw[e1,h3];exact(EW h).2⟩
 |true=>exact⟨e2,by rw[e1,h3];exact(EW h).2⟩
theorem JW{e:ME}{b:Option KB}(h:I9 e b=true): ∃b',b=some b'∧b'.blk D=(meB e).blk D:=by
 unfold I9 at h
 split at h
 ·rename_i es N q
  cases hg:e.g with
  |true=>rw[hg]at h;cases h
  |false=>
   rw[hg]at h
   have h:(Nat.beq es e.es&&bqA e.l (Sq.toL .und q 0 N))=true:=h
   rw[q0Q]at h
   exact⟨_,rfl,by rw[D0,hg,CN h.2];rfl⟩
 ·rename_i es N q
  cases hg:e.g with
  |false=>rw[hg]at h;cases h
  |true=>
   rw[hg]at h
   have h:(Nat.beq es e.es&&bqA e.l (Sq.toL .und q 0 N))=true:=h
   rw[q0Q]at h
   exact⟨_,rfl,by rw[D0,hg,CN h.2,q1B h.1];rfl⟩
 ·cases h
theorem O6{e:ME}{K:Key}{s:S}(h:newB e K s=true): ∃bM,mget s.m K=some bM∧K≠k0∧bM.blk D=(meB e.res).blk D:=by
 unfold newB at h
 rw[q0Q]at h
 obtain⟨b,h1,h2⟩:=JW (D:=D) h.2
 exact⟨b,h1,fun e=>nbeq h.1 (by rw[e]),h2⟩
theorem XL{e:ME}{u:V}{s:S}(h:okU e u s=true):Kf D k0 e u s:=by
 unfold okU at h;unfold Kf
 cases hw:e.w with
 |nil=>
  rw[hw]at h
  have h:(bqV u e.v&&wC e.v)=true:=h
  rw[q0Q]at h
  exact⟨Ep h.1,h.2⟩
 |cons a0 r0=>
  rw[hw]at h
  have h0:=h
  clear h
  have h:(match(generalizing:=false) u with
   | .tu [a,.sl K lo n c w,.nn .i64 z]=>(bqV a e.v&&vG e.v)&&((Nat.beq lo 0&&(Nat.beq n e.w.length&&Nat.beq c e.w.length))&&((Nat.beq w 3&&(Nat.beq z 0&&!e.o))&&(e.w.all qqB&&newB e K s)))
   | .tu [a,.gs K lo n w,.nn .i64 z]=>(bqV a e.v&&vG e.v)&&((Nat.beq lo 0&&Nat.beq n e.w.length)&&((Nat.beq w 3&&(Nat.beq z 0&&e.o))&&(e.w.all qqB&&newB e K s)))
   |_=>false)=true:=by rw[hw];exact h0
  split at h
  ·rename_i a K lo n c w z
   simp only[q0Q,q0S]at h
   obtain⟨⟨h1,h2⟩,⟨h3,h4,h5⟩,⟨h6,h7,h8⟩,h9,h10⟩:=h
   obtain⟨bM,d1,d2,d3⟩:=O6 (D:=D) h10
   refine⟨K,bM,?_,d1,d2,d3,h2,by rw[←hw];exact(EW h9).1,LP h9 rfl⟩
   rw[Ep h1,q1B h3,q1B h4,q1B h5,q1B h6,q1B h7]
   unfold meA ME.res
   rw[h8]
  ·rename_i a K lo n w z
   simp only[q0Q]at h
   obtain⟨⟨h1,h2⟩,⟨h3,h4⟩,⟨h6,h7,h8⟩,h9,h10⟩:=h
   obtain⟨bM,d1,d2,d3⟩:=O6 (D:=D) h10
   refine⟨K,bM,?_,d1,d2,d3,h2,by rw[←hw];exact(EW h9).1,LP h9 rfl⟩
   rw[Ep h1,q1B h3,q1B h4,q1B h6,q1B h7]
   unfold meA ME.res
   rw[h8]
  ·cases h
theorem A0(hm:Go.Proofs.Tryz.prog.follows .mixedOrders=true){f:FuncId}{L:List (List ME)}(h:Ac f L=true):qw D Go.Proofs.Tryz.prog f (qx (.memoS L)):=by
 refine VP (κ:=k0) (nx:=k1) (by decide) fun B hB e he=>?_
 have h:=List.all_eq_true.1 (List.all_eq_true.1 h B hB) e he
 simp only[q0Q]at h
 obtain⟨h1,h2,h3,h4,h5⟩:=h
 have h3:=q1B h3
 refine⟨?_,(EW h2).1,h4⟩
 unfold okM at h1
 cases hr:(wg Go.Proofs.Tryz.prog (prims tbA) locT 60).call f (j9 (meA e k0::e.r)).c0 (meA e k0::e.r).length (stM e)with
 |no t=>rw[hr]at h1;cases h1
 |need n=>rw[hr]at h1;cases h1
 |ok u s1=>
  rw[hr]at h1
  have h1:(okU e u s1&&I9 e (mget s1.m k0))=true:=h1
  rw[q0Q]at h1
  obtain⟨b1,h6,h7⟩:=JW (D:=D) h1.2
  refine⟨s1,b1,u,BG (D:=D) (P:=Go.Proofs.Tryz.prog) (pr:=prims tbA) (tb:=locT) (n:=60) (Eg B7) (BX Ia) hm hr (fun x hx=>?_) ⟨fun k b hb=>?_,fun k hk=>?_,fun j p h=>?_⟩,h6,h7,XL h1.1⟩
  ·rcases q1i.1 hx with rfl|hx
   ·unfold meA;cases e.g<;>exact⟨trivial,by simp⟩
   ·exact Nq (List.all_eq_true.1 h5 x hx)
  ·have hb:mget (mset mnew k0 (some (meB e))) k=some b:=hb
   rw[jr]at hb
   split at hb
   ·cases hb;exact LP h2 h3
   ·rw[vO]at hb;cases hb
  ·have hk:mget (mset mnew k0 (some (meB e))) k≠none:=hk
   rw[jr]at hk
   split at hk
   ·rename_i e;rw[←e];exact(by decide:k0.num<k1.num)
   ·exact absurd (vO k) hk
  ·have h:([]:List (Nat×Nat))[j]?=some p:=h
   simp at h
theorem YX(hm:Go.Proofs.Tryz.prog.follows .mixedOrders=true): ∀p∈tbM,qw D Go.Proofs.Tryz.prog p.1 (qx p.2):=fun p hp=>by
 unfold tbM at hp
 rcases q1i.1 hp with rfl|hp
 ·exact A0 hm YK
 rcases q1i.1 hp with rfl|hp
 ·exact A0 hm YL
 rcases q1i.1 hp with rfl|hp
 ·exact A0 hm YM
 rcases q1i.1 hp with rfl|hp
 ·exact A0 hm YN
 rcases q1i.1 hp with rfl|hp
 ·exact A0 hm YO
 rcases q1i.1 hp with rfl|hp
 ·exact A0 hm YP
 rcases q1i.1 hp with rfl|hp
 ·exact A0 hm YQ
 rcases q1i.1 hp with rfl|hp
 ·exact A0 hm YR
 rcases q1i.1 hp with rfl|hp
 ·exact XE hm YJ
 exact Ia p hp
theorem YV(hm:Go.Proofs.Tryz.prog.follows .mixedOrders=true)(hD:DOk D)(hl:D.length≤500):Eh D Go.Proofs.Tryz.prog (prims tbF):=BX fun p hp=>by
 unfold tbF at hp
 rcases q1i.1 hp with rfl|hp
 ·have h:=Me (D:=D) ⟨q1H hD.1 (by decide),hD.2⟩
  rwa [decide_eq_true hl]at h
 rcases q1i.1 hp with rfl|hp
 ·exact VU hD
 rcases q1i.1 hp with rfl|hp
 ·exact VT hD
 rcases q1i.1 hp with rfl|hp
 ·exact RM hm
 exact YX hm p hp
theorem YW(hm:Go.Proofs.Tryz.prog.follows .mixedOrders=true)(hD:Bnd (.sl (.int .i64)) (.s 9223372036854775807 (.n 9223372036854775808)) D)(hl: ¬D.length≤500):Eh D Go.Proofs.Tryz.prog (prims tbG):=BX fun p hp=>by
 unfold tbG at hp
 rcases q1i.1 hp with rfl|hp
 ·have h:=Me hD
  rwa [decide_eq_false hl]at h
 rcases q1i.1 hp with rfl|hp
 ·exact RM hm
 cases hp
theorem OH{f:FuncId}{P:Program}{sc:List (Nat×Nat)}{s1:S}(h:CallOk D P f [.dl] (stC sc) (.bb true) s1):Sig P f (argsE [.sl (.int .i64)] D) (.c (.one (.val (.bool true)))):=by
 refine⟨h.callable,fun us w H β hargs _ _ hon=>?_⟩
 have hargs:AVs β H [argC (.sl (.int .i64)) D] us:=hargs
 rw[Gc]at hargs
 have ha:AVs (fun _=>none) H ([V.dl].map (qe D)) us:=by
  match us,hargs with
  |[],h=>exact h.elim
  |[u],⟨h1,_⟩=>exact⟨h1,trivial⟩
  |_::_::_,⟨_,h⟩=>exact h.elim
 have hn: ∀k b,mget (stC sc).m k=some b→False:=fun k b hb=>by rw[show(stC sc).m=mnew from rfl,vO]at hb;cases hb
 refine Calls.mono (h.calls us w H (fun _=>none) ha ⟨fun k b hb=>(hn k b hb).elim,fun k b hb=>(hn k b hb).elim,fun k k' b b' hb=>(hn k b hb).elim⟩ hon fun _ _ _=>rfl) ?_
 rintro e w' ⟨v,H',β',rfl,hst,hsat,_⟩
 have hkeep: ∀b,b<w.heap.size→w'.heap[b]?=w.heap[b]?:=fun b hb=>hst.keep b hb fun k hk=>by
  cases hk2:mget (stC sc).m k with
  |none=>exact absurd hk2 hk
  |some b2=>exact(hn k b2 hk2).elim
 exact⟨v,H',β,rfl,⟨hst.os,hst.tape,hst.output,hst.size,fun b hb _=>hkeep b hb,hst.hle,hst.hnew,hst.hon,fun _ _=>rfl,fun k hk=>by simp[qt]at hk,fun k hk=>by simp[qt]at hk⟩,hsat,fun k b hb=>by simp at hb⟩
end
end
theorem UK{a b:Bool}(h:andR a b=true):a=true∧b=true:=by
 cases a with
 |false=>cases h
 |true=>exact⟨rfl,h⟩
theorem up{a n:Nat}(h:rg n a=true)(k: ∀b,b<a→runL (scr b)=true): ∀b,b<a+n→runL (scr b)=true:=fun b hb=>by
 by_cases e:b<a
 ·exact k b e
 ·have key: ∀n a,rg n a=true→ ∀b,a≤b→b<a+n→runL (scr b)=true:=by
   intro n
   induction n with
   |zero=>intro a _ b h1 h2;omega
   |succ n ih=>
    intro a hr b h1 h2
    obtain⟨h3,h4⟩:=UK (show andR (runL (scr a)) (rg n (Nat.succ a))=true from hr)
    by_cases e:b=a
    ·rw[e];exact h3
    ·exact ih (Nat.succ a) h4 b (by show a+1≤b;omega) (by show b<a+1+n;omega)
  exact key n a h b (by omega) hb
set_option maxRecDepth 10000 in
theorem ZG: ∀b,b<544→runL (scr b)=true:=up g307 (up g306 (up g305 (up g304 (up g303 (up g302 (up g301 (up g300 (up g299 (up g298 (up g297 (up g296 (up g295 (up g294 (up g293 (up g292 (up g291 (up g290 (up g289 (up g288 (up g287 (up g286 (up g285 (up g284 (up g283 (up g282 (up g281 (up g280 (up g279 (up g278 (up g277 (up g276 (up g275 (up g274 (up g273 (up g272 (up g271 (up g270 (up g269 (up g268 (up g267 (up g266 (up g265 (up g264 (up g263 (up g262 (up g261 (up g260 (up g259 (up g258 (up g257 (up g256 (up g255 (up g254 (up g253 (up g252 (up g251 (up g250 (up g249 (up g248 (up g247 (up g246 (up g245 (up g244 (up g243 (up g242 (up g241 (up g240 (up g239 (up g238 (up g237 (up g236 (up g235 (up g234 (up g233 (up g232 (up g231 (up g230 (up g229 (up g228 (up g227 (up g226 (up g225 (up g224 (up g223 (up g222 (up g221 (up g220 (up g219 (up g218 (up g217 (up g216 (up g215 (up g214 (up g213 (up g212 (up g211 (up g210 (up g209 (up g208 (up g207 (up g206 (up g205 (up g204 (up g203 (up g202 (up g201 (up g200 (up g199 (up g198 (up g197 (up g196 (up g195 (up g194 (up g193 (up g192 (up g191 (up g190 (up g189 (up g188 (up g187 (up g186 (up g185 (up g184 (up g183 (up g182 (up g181 (up g180 (up g179 (up g178 (up g177 (up g176 (up g175 (up g174 (up g173 (up g172 (up g171 (up g170 (up g169 (up g168 (up g167 (up g166 (up g165 (up g164 (up g163 (up g162 (up g161 (up g160 (up g159 (up g158 (up g157 (up g156 (up g155 (up g154 (up g153 (up g152 (up g151 (up g150 (up g149 (up g148 (up g147 (up g146 (up g145 (up g144 (up g143 (up g142 (up g141 (up g140 (up g139 (up g138 (up g137 (up g136 (up g135 (up g134 (up g133 (up g132 (up g131 (up g130 (up g129 (up g128 (up g127 (up g126 (up g125 (up g124 (up g123 (up g122 (up g121 (up g120 (up g119 (up g118 (up g117 (up g116 (up g115 (up g114 (up g113 (up g112 (up g111 (up g110 (up g109 (up g108 (up g107 (up g106 (up g105 (up g104 (up g103 (up g102 (up g101 (up g100 (up g99 (up g98 (up g97 (up g96 (up g95 (up g94 (up g93 (up g92 (up g91 (up g90 (up g89 (up g88 (up g87 (up g86 (up g85 (up g84 (up g83 (up g82 (up g81 (up g80 (up g79 (up g78 (up g77 (up g76 (up g75 (up g74 (up g73 (up g72 (up g71 (up g70 (up g69 (up g68 (up g67 (up g66 (up g65 (up g64 (up g63 (up g62 (up g61 (up g60 (up g59 (up g58 (up g57 (up g56 (up g55 (up g54 (up g53 (up g52 (up g51 (up g50 (up g49 (up g48 (up g47 (up g46 (up g45 (up g44 (up g43 (up g42 (up g41 (up g40 (up g39 (up g38 (up g37 (up g36 (up g35 (up g34 (up g33 (up g32 (up g31 (up g30 (up g29 (up g28 (up g27 (up g26 (up g25 (up g24 (up g23 (up g22 (up g21 (up g20 (up g19 (up g18 (up g17 (up g16 (up g15 (up g14 (up g13 (up g12 (up g11 (up g10 (up g9 (up g8 (up g7 (up g6 (up g5 (up g4 (up g3 (up g2 (up g1 (up g0 (fun j h=>absurd h (Nat.not_lt_zero j)))))))))))))))))))))))))))))))))))))))))))))))))))))))))))))))))))))))))))))))))))))))))))))))))))))))))))))))))))))))))))))))))))))))))))))))))))))))))))))))))))))))))))))))))))))))))))))))))))))))))))))))))))))))))))))))))))))))))))))))))))))))))))))))))))))))))))))))))))))))))))))))))))))))))))))))))))))
theorem PX{a b c v n:Nat}(ha:a<4)(hb:b<2)(hc:c<2)(hv:v<17)(hn:n<2):runL ((4,a)::(2,b)::(2,c)::sv v n)=true:=by
 have h:=ZG (v*32+n*16+a*4+b*2+c) (by omega)
 unfold scr at h
 rw[show Nat.mod (Nat.div (v*32+n*16+a*4+b*2+c) 4) 4=a from(by omega:(v*32+n*16+a*4+b*2+c)/4%4=a),show Nat.mod (Nat.div (v*32+n*16+a*4+b*2+c) 2) 2=b from(by omega:(v*32+n*16+a*4+b*2+c)/2%2=b),show Nat.mod (v*32+n*16+a*4+b*2+c) 2=c from(by omega:(v*32+n*16+a*4+b*2+c)%2=c),show Nat.div (v*32+n*16+a*4+b*2+c) 32=v from(by omega:(v*32+n*16+a*4+b*2+c)/32=v),show Nat.mod (Nat.div (v*32+n*16+a*4+b*2+c) 16) 2=n from(by omega:(v*32+n*16+a*4+b*2+c)/16%2=n)]at h
 exact h
theorem q0B{a b c n:Nat}(ha:a<4)(hb:b<2)(hc:c<2)(hn:n<2):runL [(4,a),(2,b),(2,c),(2,0),(2,n)]=true:=by
 have h:=PX (v:=0) ha hb hc (by omega) hn
 exact h
theorem q0C{a b c k n i:Nat}(ha:a<4)(hb:b<2)(hc:c<2)(hk:k<2)(hi:i<3)(hn:n<2):runL [(4,a),(2,b),(2,c),(2,1),(2,k),(6,1),(3,i),(2,n)]=true:=by
 have h:=PX ha hb hc (show k*8+i+1+1<17 by omega) hn
 rcases(show k=0∨k=1 by omega)with rfl|rfl<;>rcases(show i=0∨i=1∨i=2 by omega)with rfl|rfl|rfl<;>exact h
theorem q0D{a b c k j n:Nat}(ha:a<4)(hb:b<2)(hc:c<2)(hk:k<2)(hj:j<6)(h1:j≠1)(hn:n<2):runL [(4,a),(2,b),(2,c),(2,1),(2,k),(6,j),(2,n)]=true:=by
 have h:=PX ha hb hc (show k*8+(if j=0 then 0 else j+2)+1<17 by split<;>omega) hn
 rcases(show k=0∨k=1 by omega)with rfl|rfl<;>rcases(show j=0∨j=2∨j=3∨j=4∨j=5 by omega)with rfl|rfl|rfl|rfl|rfl<;>exact h
section
variable {D:List Int}
theorem KK{l:List (Nat×Nat)}(h: ∀(j:Nat) p,l[j]?=some p→outc D j p.1=p.2):SOK D (stC l):=⟨(Df D).ok,(Df D).lt,fun j p hj=>by rw[show(stC l).dn+j=j from q22 j];exact h j p hj⟩
theorem YI(D:List Int): ∃l,runL l=true∧SOK D (stC l):=by
 have o:=fun j{n} h=>VN D j (n:=n) h
 have h0:=o 0 (n:=4) (by omega);have h1:=o 1 (n:=2) (by omega);have h2:=o 2 (n:=2) (by omega);have h3:=o 3 (n:=2) (by omega)
 by_cases q:outc D 3 2=0
 ·refine⟨_,q0B h0 h1 h2 (o 4 (n:=2) (by omega)),KK fun j p h=>?_⟩
  match j,h with
  |0,h=>cases h;rfl
  |1,h=>cases h;rfl
  |2,h=>cases h;rfl
  |3,h=>cases h;exact q
  |4,h=>cases h;rfl
  |j+5,h=>simp at h
 have q:outc D 3 2=1:=by omega
 by_cases r:outc D 5 6=1
 ·refine⟨_,q0C h0 h1 h2 (o 4 (n:=2) (by omega)) (o 6 (n:=3) (by omega)) (o 7 (n:=2) (by omega)),KK fun j p h=>?_⟩
  match j,h with
  |0,h=>cases h;rfl
  |1,h=>cases h;rfl
  |2,h=>cases h;rfl
  |3,h=>cases h;exact q
  |4,h=>cases h;rfl
  |5,h=>cases h;exact r
  |6,h=>cases h;rfl
  |7,h=>cases h;rfl
  |j+8,h=>simp at h
 ·refine⟨_,q0D h0 h1 h2 (o 4 (n:=2) (by omega)) (o 5 (n:=6) (by omega)) r (o 6 (n:=2) (by omega)),KK fun j p h=>?_⟩
  match j,h with
  |0,h=>cases h;rfl
  |1,h=>cases h;rfl
  |2,h=>cases h;rfl
  |3,h=>cases h;exact q
  |4,h=>cases h;rfl
  |5,h=>cases h;rfl
  |6,h=>cases h;rfl
  |j+7,h=>simp at h
theorem lmsh_sig(l:List Int)(hx:Bnds [.sl (.int .i64)] [(.s 9223372036854775807 (.n 9223372036854775808))] l)(hp: ∀c0∈([]:List Prop),c0):Sig Tryz.prog 3 (argsE [.sl (.int .i64)] l) (WV.c (.one (.dt .bool .u true))).exp:=by
 have hD:=Bnds.h1 hx
 have hm:=hmix
 show Sig Tryz.prog 3 (argsE [.sl (.int .i64)] l) (.c (.one (.val (.bool true))))
 by_cases hl:l.length≤500
 ·obtain⟨L,hr,hsok⟩:=YI l
  obtain⟨s',hs'⟩:=LX (Wd.symm.trans hr)
  exact OH (BG (D:=l) (P:= Tryz.prog) (pr:=prims tbF) (tb:=locT) (n:=60) (f:=3) (vs:=[V.dl]) (Eg B7) (YV hm ⟨q1H hl (by decide),hD.2⟩ hl) hm hs' (fun x hx=>by simp at hx;subst hx;exact⟨trivial,by simp⟩) hsok)
 ·obtain⟨s',hs'⟩:=LX (Wc.symm.trans run_g)
  exact OH (BG (D:=l) (P:= Tryz.prog) (pr:=prims tbG) (tb:=locT) (n:=60) (f:=3) (vs:=[V.dl]) (Eg B7) (YW hm hD hl) hm hs' (fun x hx=>by simp at hx;subst hx;exact⟨trivial,by simp⟩) (Df l))
end
end Go.Proofs.YtjemkhmahjnfaaaGreat.Sx.Kx
