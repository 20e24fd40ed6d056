/-
Own laws, part 30. No condition.
-/
import Derived.Test.YtilobhkcmoldlaaGreatQ29
import Derived.Test.YtilobhkcmoldlaaGreatProg
import Derived.KernelRfl
import Derived.Test.YtilobhkcmoldlaaGreatQ9
import Derived.Test.YtilobhkcmoldlaaGreatQ10
import Derived.Test.YtilobhkcmoldlaaGreatQ11
import Derived.Test.YtilobhkcmoldlaaGreatQ12
import Derived.Test.YtilobhkcmoldlaaGreatQ13
import Derived.Test.YtilobhkcmoldlaaGreatQ14
import Derived.Test.YtilobhkcmoldlaaGreatQ15
import Derived.Test.YtilobhkcmoldlaaGreatQ16
import Derived.Test.YtilobhkcmoldlaaGreatQ17
import Derived.Test.YtilobhkcmoldlaaGreatQ18
import Derived.Test.YtilobhkcmoldlaaGreatQ19
import Derived.Test.YtilobhkcmoldlaaGreatQ20
import Derived.Test.YtilobhkcmoldlaaGreatQ21
import Derived.Test.YtilobhkcmoldlaaGreatQ22
import Derived.Test.YtilobhkcmoldlaaGreatQ23
import Derived.Test.YtilobhkcmoldlaaGreatQ24
import Derived.Test.YtilobhkcmoldlaaGreatQ25
import Derived.Test.YtilobhkcmoldlaaGreatQ26
import Derived.Test.YtilobhkcmoldlaaGreatQ27
import Derived.Test.YtilobhkcmoldlaaGreatQ28
namespace Go.Proofs.YtilobhkcmoldlaaGreat.Sx.Kx
open Go
set_option linter.unusedVariables false
set_option linter.unusedSimpArgs false
noncomputable section
theorem run_e:runE=true:=by kernel_rfl
theorem run_g:runG=true:=by kernel_rfl
theorem q47:Sb 151 mmo0=true:=by kernel_rfl
end
noncomputable section
def q02(P:Program)(fn:Func):Bool:=match fn.body with|some c=>vy P c|none=>true
def q01(P:Program):Bool:=P.funcs.toList.all (q02 P)
theorem Fe{P:Program}(h:q01 P=true): ∀(f:FuncId) fn c,P.funcs[f]?=some fn->fn.body=some c->vy P c=true:=by
 intro f fn c hf hc
 have hm:fn∈P.funcs.toList:=by
  obtain⟨h1,h2⟩:=Array.getElem?_eq_some_iff.1 hf;rw[<-h2];exact Array.mem_toList_iff.2 (Array.getElem_mem h1)
 have h3:=List.all_eq_true.1 h fn hm;unfold q02 at h3;rw[hc]at h3;exact h3
theorem BI:q01 Go.Proofs.Tryz.prog=true:=by kernel_rfl
end
noncomputable section
theorem q1c(D:List Int)(j:Nat){n:Nat}(hn:0<n):outc D j n<n:=by
 unfold outc;split
 .rename_i z _
  have h1:=Int.emod_nonneg z (show(n:Int)≠0 by omega);have h2:=Int.emod_lt_of_pos z (show(0:Int)<n by omega);omega
 .exact hn
theorem q1w:runE=okB ((zS Go.Proofs.Tryz.prog (prims j6) locT 60).call 5 (jj []).c0 ([]:List V).length stE):=by
 unfold runE;rw[show([]:List V).length=0 from rfl]
theorem q1y{l:List (Nat×Nat)}:jA l=okB ((zS Go.Proofs.Tryz.prog (prims tbF) locT 60).call 3 (jj [.dl]).c0 [V.dl].length (stC l)):=by
 unfold jA;rw[show[V.dl].length=1 from rfl]
theorem q1x:runG=okB ((zS Go.Proofs.Tryz.prog (prims tbG) locT 60).call 3 (jj [.dl]).c0 [V.dl].length (stC [])):=by
 unfold runG;rw[show[V.dl].length=1 from rfl]
section
variable {D:List Int}
theorem q37{v:V}{r:RO}(h:okV v r=true): ∃s',r= .ok v s':=by
 cases r with
 |no t=>cases h
 |need n=>cases h
 |ok u s'=>
  have h:bqV u v=true:=h;rw[Un h];exact⟨s',rfl⟩
theorem q2W(hm:Go.Proofs.Tryz.prog.follows .mixedOrders=true){f:FuncId}{L:List (List V×V)}(h:Sb f L=true):qI D Go.Proofs.Tryz.prog f (qJ (.memo L)):=by
 have key: ∀p∈L,(∃s1,CallOk D Go.Proofs.Tryz.prog f p.1 stE p.2 s1)/\p.1.all BF=true/\CL p.2=true:=by
  induction L with
  |nil=>intro p hp;cases hp
  |cons q r ih=>
   have h: @Bool.rec (λ_=>Bool) false (Sb f r) (okV q.2 ((zS Go.Proofs.Tryz.prog (prims tbA) locT 60).call f (jj q.1).c0 q.1.length stE)&&(q.1.all BF&&CL q.2&&q.1.all argB))=true:=h
   cases hb:(okV q.2 ((zS Go.Proofs.Tryz.prog (prims tbA) locT 60).call f (jj q.1).c0 q.1.length stE)&&(q.1.all BF&&CL q.2&&q.1.all argB))with
   |false=>rw[hb]at h;cases h
   |true=>
    rw[hb]at h;simp only[q5X]at hb;obtain⟨h1,⟨h2,h3⟩,h4⟩:=hb;intro p hp;rcases q6p.1 hp with rfl|hp
    .obtain⟨s1,h5⟩:=q37 h1
     exact⟨⟨s1,Cn (D:=D) (P:=Go.Proofs.Tryz.prog) (pr:=prims tbA) (tb:=locT) (n:=60) (Fe BI) (CM WP) hm h5 (λx hx=>q0c (List.all_eq_true.1 h4 x hx)) (Eb D)⟩,h2,h3⟩
    .exact ih h p hp
 exact q3d (λp hp=>(key p hp).1) λp hp=>(key p hp).2
abbrev TbOk(D:List Int)(tb:List (Nat×Pt)):Prop:= ∀p∈tb,qI D Go.Proofs.Tryz.prog p.1 (qJ p.2)
abbrev DpOk(D:List Int)(f:FuncId)(e:DE):Prop:=(∃v1 s1,CallOk D Go.Proofs.Tryz.prog f e.xs (stD e) v1 s1/\fitD e v1 s1=true)/\sndB e=true
theorem fn{Q:DE->Prop}: ∀B∈([]:List (List DE)),∀e∈B,Q e:=λB h=>by cases h
theorem fb{Q:DE->Prop}{B:List DE}{L:List (List DE)}(h: ∀e∈B,Q e)(k: ∀B∈L,∀e∈B,Q e): ∀B'∈B::L,∀e∈B',Q e:=λB' hB=>by
 rcases q6p.1 hB with rfl|hB
 .exact h
 .exact k B' hB
theorem ft{Q:DE->Prop}{L:List DE}(n:Nat)(h: ∀e∈L.take n,Q e)(k: ∀e∈L.drop n,Q e): ∀e∈L,Q e:=λe he=>by
 rw[<-List.take_append_drop n L]at he;rcases q6o.1 he with he|he
 .exact h e he
 .exact k e he
theorem Nc{tb:List (Nat×Pt)}(htb:TbOk D tb)(hm:Go.Proofs.Tryz.prog.follows .mixedOrders=true){f:FuncId}{L:List DE}(h:qd tb f L=true):
  ∀e∈L,DpOk D f e:=by
 induction L with
 |nil=>intro e he;cases he
 |cons q r ih=>
  have h: @Bool.rec (λ_=>Bool) false (qd tb f r) (okD q ((zS Go.Proofs.Tryz.prog (prims tb) locT 60).call f (jj q.xs).c0 q.xs.length (stD q))&&sndB q)=true:=h
  cases hb:(okD q ((zS Go.Proofs.Tryz.prog (prims tb) locT 60).call f (jj q.xs).c0 q.xs.length (stD q))&&sndB q)with
  |false=>rw[hb]at h;cases h
  |true=>
   rw[hb]at h;rw[q5X]at hb;obtain⟨h1,h2⟩:=hb;intro e he;rcases q6p.1 he with rfl|he
   .obtain⟨a1,a2,_,_⟩:=WE (D:=D) h2
    cases hr:(zS Go.Proofs.Tryz.prog (prims tb) locT 60).call f (jj e.xs).c0 e.xs.length (stD e)with
    |no t=>rw[hr]at h1;cases h1
    |need n=>rw[hr]at h1;cases h1
    |ok v s=>
     rw[hr]at h1;exact⟨⟨v,s,Cn (D:=D) (P:=Go.Proofs.Tryz.prog) (pr:=prims tb) (tb:=locT) (n:=60) (Fe BI) (CM htb) hm hr a1 a2,h1⟩,h2⟩
   .exact ih h e he
theorem NV(hm:Go.Proofs.Tryz.prog.follows .mixedOrders=true):TbOk D j6:=λp hp=>by
 unfold j6 at hp;rcases q6p.1 hp with rfl|hp
 .exact q2W hm q47
 exact WP p hp
theorem WN(hm:Go.Proofs.Tryz.prog.follows .mixedOrders=true):TbOk D tb1:=λp hp=>by
 have k: ∀{f:FuncId}{L:List DE},qd j6 f L=true-> ∀e∈L,DpOk D f e:=λh=>Nc (NV hm) hm h
 unfold tb1 at hp;rcases q6p.1 hp with rfl|hp
 .exact DZ (ft 5 (k So) (k Sr))
 rcases q6p.1 hp with rfl|hp
 .exact E0 (fb (k Y7) (fb (k Y8) (fb (k Y9) (fb (k Ya) (fb (k Yb) (fb (k Yc) (fb (k Yd) (fb (k Ye) (fb (k Yf) (fb (k Yg) (fb (k VB) (fb (k VD) (fb (k VE) (fb (k VF) (fb (k VG) (fb (k VH) (fn)))))))))))))))))
 rcases q6p.1 hp with rfl|hp
 .exact E0 (fb (k Yh) (fb (k Yi) (fb (k Yj) (fb (k Yk) (fb (k Yl) (fb (k Ym) (fb (k Yn) (fb (k Yo) (fb (k Yp) (fb (k Yq) (fb (k VI) (fb (k VJ) (fb (k VK) (fb (k VM) (fb (k VN) (fb (k VO) (fn)))))))))))))))))
 rcases q6p.1 hp with rfl|hp
 .exact E0 (fb (k Yr) (fb (k Ys) (fb (k Yt) (fb (k Yu) (fb (k Yv) (fb (k Yw) (fb (k Yx) (fb (k Yy) (fb (k Yz) (fb (k YA) (fb (k VP) (fb (k VQ) (fb (k VR) (fb (ft 6 (k OM) (ft 6 (k ON) (ft 6 (k OO) (ft 6 (k OP) (ft 6 (k OQ) (k OR)))))) (fb (k VS) (fb (k VT) (fb (k VU) (fb (k VV) (fb (k VW) (fb (k VX) (fb (k VY) (fb (k VZ) (fb (k W0) (fb (ft 6 (k OS) (ft 6 (k OT) (ft 6 (k OU) (ft 6 (k OV) (ft 6 (k OW) (k OX)))))) (fb (k W1) (fb (k W2) (fb (k W3) (fb (k W4) (fb (k W5) (fn))))))))))))))))))))))))))))))
 exact NV hm p hp
theorem WO(hm:Go.Proofs.Tryz.prog.follows .mixedOrders=true):TbOk D tb2:=λp hp=>by
 have k: ∀{f:FuncId}{L:List DE},qd tb1 f L=true-> ∀e∈L,DpOk D f e:=λh=>Nc (WN hm) hm h
 unfold tb2 at hp;rcases q6p.1 hp with rfl|hp
 .exact E0 (fb (k YB) (fb (k YC) (fb (k YD) (fb (k YE) (fb (k YF) (fb (k YG) (fb (k YH) (fb (k YI) (fb (k YJ) (fb (k YK) (fb (k W6) (fb (k W7) (fb (k W8) (fn))))))))))))))
 rcases q6p.1 hp with rfl|hp
 .exact DZ (ft 6 (k Ss) (ft 5 (k St) (ft 5 (k Su) (ft 5 (k Sv) (ft 5 (k Sw) (k Sy))))))
 rcases q6p.1 hp with rfl|hp
 .exact DZ (k YL)
 rcases q6p.1 hp with rfl|hp
 .exact DZ (k YM)
 exact WN hm p hp
theorem q4c(hm:Go.Proofs.Tryz.prog.follows .mixedOrders=true):TbOk D tb3:=λp hp=>by
 have k: ∀{f:FuncId}{L:List DE},qd tb2 f L=true-> ∀e∈L,DpOk D f e:=λh=>Nc (WO hm) hm h
 unfold tb3 at hp;rcases q6p.1 hp with rfl|hp
 .exact E0 (fb (k YN) (fb (k YO) (fb (ft 1 (k Sz) (ft 1 (k SA) (ft 1 (k SB) (ft 1 (k SC) (ft 1 (k SD) (ft 1 (k SF) (k SG))))))) (fb (ft 1 (k SH) (ft 1 (k SJ) (ft 1 (k SK) (ft 1 (k SL) (ft 1 (k SM) (ft 1 (k SN) (k SO))))))) (fb (k YP) (fb (k YQ) (fb (k YR) (fb (ft 1 (k SP) (ft 1 (k SQ) (ft 1 (k SS) (ft 1 (k ST) (ft 1 (k SU) (ft 1 (k SV) (k SW))))))) (fb (k YS) (fb (k YT) (fb (k W9) (fb (k Wa) (fb (k Wb) (fb (k Wc) (fb (k Wd) (fb (k We) (fb (ft 1 (k OY) (ft 1 (k OZ) (ft 1 (k P0) (ft 1 (k P1) (ft 1 (k P2) (ft 1 (k P3) (k P4))))))) (fn))))))))))))))))))
 exact WO hm p hp
theorem Wv(hm:Go.Proofs.Tryz.prog.follows .mixedOrders=true):qI D Go.Proofs.Tryz.prog 5 (qJ .tru):=by
 obtain⟨s1,h1⟩:=Nm (q1w.symm.trans run_e);have hc:=Cn (D:=D) (P:=Go.Proofs.Tryz.prog) (pr:=prims j6) (tb:=locT) (n:=60) (f:=5) (vs:=[]) (Fe BI) (CM (NV hm)) hm h1 (λx hx=>by cases hx) (Eb D);exact q5r hc
theorem q4d(hm:Go.Proofs.Tryz.prog.follows .mixedOrders=true)(hD:DOk D)(hl:D.length<=500):Ff D Go.Proofs.Tryz.prog (prims tbF):=CM λp hp=>by
 unfold tbF at hp;rcases q6p.1 hp with rfl|hp
 .have h:=NC (D:=D) ⟨q6O hD.1 (by decide),hD.2⟩
  rwa [decide_eq_true hl]at h
 rcases q6p.1 hp with rfl|hp
 .exact q1h hD
 rcases q6p.1 hp with rfl|hp
 .exact q1g hD
 rcases q6p.1 hp with rfl|hp
 .exact Wv hm
 exact q4c hm p hp
theorem q4e(hm:Go.Proofs.Tryz.prog.follows .mixedOrders=true)(hD:Bnd (.sl (.int .i64)) (.s 9223372036854775807 (.n 9223372036854775808)) D)(hl: ¬D.length<=500):Ff D Go.Proofs.Tryz.prog (prims tbG):=CM λp hp=>by
 unfold tbG at hp;rcases q6p.1 hp with rfl|hp
 .have h:=NC hD
  rwa [decide_eq_false hl]at h
 rcases q6p.1 hp with rfl|hp
 .exact Wv hm
 cases hp
theorem R4{f:FuncId}{P:Program}{sc:List (Nat×Nat)}{s1:S}(h:CallOk D P f [.dl] (stC sc) (.bb true) s1):Sig P f (argsE [.sl (.int .i64)] D) (.c (.one (.val (.bool true)))):=by
 refine⟨h.callable,λus w H β hargs _ _ hon=>?_⟩;have hargs:AVs β H [argC (.sl (.int .i64)) D] us:=hargs;rw[Hm]at hargs
 have ha:AVs (λ_=>none) H ([V.dl].map (qe D)) us:=by
  match us,hargs with
  |[],h=>exact h.elim
  |[u],⟨h1,_⟩=>exact⟨h1,trivial⟩
  |_::_::_,⟨_,h⟩=>exact h.elim
 have hn: ∀k b,mget (stC sc).m k=some b->False:=λk b hb=>by rw[show(stC sc).m=mnew from rfl,wF]at hb;cases hb
 refine Calls.mono (h.calls us w H (λ_=>none) ha ⟨λk b hb=>(hn k b hb).elim,λk b hb=>(hn k b hb).elim,λk k' b b' hb=>(hn k b hb).elim⟩ hon λ_ _ _=>rfl) ?_
 rintro e w' ⟨v,H',β',rfl,hst,hsat,_⟩
 have hkeep: ∀b,b<w.heap.size->w'.heap[b]?=w.heap[b]?:=λb hb=>hst.keep b hb λk hk=>by
  cases hk2:mget (stC sc).m k with
  |none=>exact absurd hk2 hk
  |some b2=>exact(hn k b2 hk2).elim
 exact⟨v,H',β,rfl,⟨hst.os,hst.tape,hst.output,hst.size,λb hb _=>hkeep b hb,hst.hle,hst.hnew,hst.hon,λ_ _=>rfl,λk hk=>by simp[qx]at hk,λk hk=>by simp[qx]at hk⟩,hsat,λk b hb=>by simp at hb⟩
end
end
theorem up{a:Nat}(h:jA (scr a)=true)(k: ∀b,b<a->jA (scr b)=true): ∀b,b<a+1->jA (scr b)=true:=λb hb=>by
 by_cases e:b<a
 .exact k b e
 .rw[show b=a by omega];exact h
set_option maxRecDepth 10000 in
theorem q50: ∀b,b<36->jA (scr b)=true:=up g35 (up g34 (up g33 (up g32 (up g31 (up g30 (up g29 (up g28 (up g27 (up g26 (up g25 (up g24 (up g23 (up g22 (up g21 (up g20 (up g19 (up g18 (up g17 (up g16 (up g15 (up g14 (up g13 (up g12 (up g11 (up g10 (up g9 (up g8 (up g7 (up g6 (up g5 (up g4 (up g3 (up g2 (up g1 (up g0 (λj h=>absurd h (Nat.not_lt_zero j)))))))))))))))))))))))))))))))))))))
theorem q5M{a b c:Nat}(ha:a<3)(hb:b<3)(hc:c<4):jA [(3,a),(3,b),(4,c)]=true:=by
 have h:=q50 (a*12+b*4+c) (by omega);unfold scr at h;rw[show Nat.div (a*12+b*4+c) 12=a from(by omega:(a*12+b*4+c)/12=a),show Nat.mod (Nat.div (a*12+b*4+c) 4) 3=b from(by omega:(a*12+b*4+c)/4%3=b),show Nat.mod (a*12+b*4+c) 4=c from(by omega:(a*12+b*4+c)%4=c)]at h;exact h
section
variable {D:List Int}
theorem q2c{l:List (Nat×Nat)}(h: ∀(j:Nat) p,l[j]?=some p->outc D j p.1=p.2):SOK D (stC l):=⟨(Eb D).ok,(Eb D).lt,λj p hj=>by rw[show(stC l).dn+j=j from q79 j];exact h j p hj⟩
theorem q46(D:List Int): ∃l,jA l=true/\SOK D (stC l):=by
 have o:=λj{n} h=>q1c D j (n:=n) h
 refine⟨_,q5M (o 0 (n:=3) (by omega)) (o 1 (n:=3) (by omega)) (o 2 (n:=4) (by omega)),q2c λj p h=>?_⟩
 match j,h with
 |0,h=>cases h;rfl
 |1,h=>cases h;rfl
 |2,h=>cases h;rfl
 |j+3,h=>simp at h
theorem lstr_sig(l:List Int)(hx:Bnds [.sl (.int .i64)] [(.s 9223372036854775807 (.n 9223372036854775808))] l)(hp: ∀c0∈([]:List Prop),c0):Sig Tryz.prog 3 (argsE [.sl (.int .i64)] l) (WV.c (.one (.dt .bool .u true))).exp:=by
 have hD:=Bnds.h1 hx;have hm:=hmix;show Sig Tryz.prog 3 (argsE [.sl (.int .i64)] l) (.c (.one (.val (.bool true))));by_cases hl:l.length<=500
 .obtain⟨L,hr,hsok⟩:=q46 l
  obtain⟨s',hs'⟩:=Nm (q1y.symm.trans hr);exact R4 (Cn (D:=l) (P:= Tryz.prog) (pr:=prims tbF) (tb:=locT) (n:=60) (f:=3) (vs:=[V.dl]) (Fe BI) (q4d hm ⟨q6O hl (by decide),hD.2⟩ hl) hm hs' (λx hx=>by simp at hx;subst hx;exact⟨trivial,by simp⟩) hsok)
 .obtain⟨s',hs'⟩:=Nm (q1x.symm.trans run_g)
  exact R4 (Cn (D:=l) (P:= Tryz.prog) (pr:=prims tbG) (tb:=locT) (n:=60) (f:=3) (vs:=[V.dl]) (Fe BI) (q4e hm hD hl) hm hs' (λx hx=>by simp at hx;subst hx;exact⟨trivial,by simp⟩) (Eb l))
end
end Go.Proofs.YtilobhkcmoldlaaGreat.Sx.Kx
