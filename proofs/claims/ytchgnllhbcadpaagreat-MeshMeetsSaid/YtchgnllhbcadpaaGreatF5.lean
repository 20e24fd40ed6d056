/-
Own laws and walks for the claim, part 5: WRef5, WRef6, WRef7, WRef8, WYa1, WYa2, WYa3, WVa1, WVa2, WOa1, WDa2, WTd, WTd2, WTd3, WMa1, WMa2, WEx1, WEx2, WEx3, WMb1, WUq, WTe, WTe2, WMb2, WTe3, WMb3, WMc1, WEx4, WTe4. No condition.
-/
import Derived.Test.YtchgnllhbcadpaaGreatF4
namespace Go.Proofs.YtchgnllhbcadpaaGreat.Sx
open Go Go.Proofs
set_option linter.unusedVariables false
set_option linter.unusedSimpArgs false
set_option maxRecDepth 20000
set_option maxHeartbeats 4000000
abbrev q0z:FI:=⟨119,[.mag,.mag],[(.n 1099511627776),(.n 1099511627776)],fun _=>[],fun b z=>(fun(x:Nat)(y:Nat)=> .c (.one (.dt .mag (.n (max (b0 b).nb (b1 b).nb+1)) (x+y)))) z.1 z.2⟩
theorem q0A:q0z.OK Tryz.prog:=mkF hmix 54 Tryz.func119 rfl rfl (by decide) [] (fun(x:Nat)(y:Nat) b hx hp=>qa (DQ (Bnds.h2 hx).1.mag (Bnds.h2 hx).2.mag) rfl) (fun(x:Nat)(y:Nat) hx hp=>by
 have hx0:lt2 x 1099511627776:=hx.1
 have hl0:(limbs x).length≤34359738369:=qg (Nat.le_of_lt hx0)
 have hx1:lt2 y 1099511627776:=hx.2
 have hl1:(limbs y).length≤34359738369:=qg (Nat.le_of_lt hx1)
 refine⟨.loop [.s 7 (.nat .i64) (.n 34359738371),.s 6 (.nat .u64) (.n 1),.g 5 90005 (.nat .u32) (.n 4294967295) 34359738371] (fun((i,c,out):Nat×Nat×List Nat)=>AddX x y i c out) (fun((i,c,out):Nat×Nat×List Nat)=>max (limbs x).length (limbs y).length+1-i) (fun((i,c,out):Nat×Nat×List Nat)=> .cond (.cond (.cond (.h 10 3 (.mk (.im (.nat .u32) (.n 4294967295))) (.nil)) (.h 10 3 (.mk (.im (.nat .u32) (.n 4294967295))) (.nil))) (.cond (.h 10 3 (.mk (.im (.nat .u32) (.n 4294967295))) (.nil)) (.h 10 3 (.mk (.im (.nat .u32) (.n 4294967295))) (.nil)))) (.cond (.cond (.cond (.h 10 3 (.mk (.im (.nat .u32) (.n 4294967295))) (.nil)) (.h 10 3 (.mk (.im (.nat .u32) (.n 4294967295))) (.nil))) (.cond (.h 10 3 (.mk (.im (.nat .u32) (.n 4294967295))) (.nil)) (.h 10 3 (.mk (.im (.nat .u32) (.n 4294967295))) (.nil)))) (.cond (.cond (.cond (.h 10 3 (.mk (.im (.nat .u32) (.n 4294967295))) (.nil)) (.h 10 3 (.mk (.im (.nat .u32) (.n 4294967295))) (.nil))) (.cond (.h 10 3 (.mk (.im (.nat .u32) (.n 4294967295))) (.nil)) (.h 10 3 (.mk (.im (.nat .u32) (.n 4294967295))) (.nil)))) (.pre 12 (.frz 90005 true [5]) (.h 12 1 (.mag (x+y) 1099511627777) (.nil)))))),kcast (by kernel_rfl) (I (rfl:0=([]:List Nat).length) (I (AddX.start x y:AddX x y 0 0 ([]:List Nat)) (fun(i:Nat)(c:Nat)(out:List Nat)(hb1:HB [.s 7 (.nat .i64) (.n 34359738371),.s 6 (.nat .u64) (.n 1),.g 5 90005 (.nat .u32) (.n 4294967295) 34359738371] (i,c,out))(hI:AddX x y i c out)=>have hv26:=(show i≤34359738371 from hb1.1);have hv27:=(show c≤1 from hb1.2.1);have hv28:=(show out.length≤34359738371 from hb1.2.2.1);have hIl:=hI.hl;have hIi:=hI.hi;have hIc:=hI.hc;have hg1:=q8 x i;have hg2:=q8 y i;Sp (i<(limbs x).length) (fun h2=>Sp (i<(limbs x).length) (fun h3=>I (?_:i<(limbs x).length) (Sp (i<(limbs y).length) (fun h4=>I (?_:i<(limbs y).length) (I (?_:out.length=out.length) (I (show(i+1)≤34359738371 by omega:Bnd (.nat .i64) (.n 34359738371) (i+1)) (I (by(try simp only[List.length_append,List.length_cons,List.length_nil])<;>omega:out.length+[((c+((limbs x).getD i 0))+((limbs y).getD i 0))%4294967296].length=(out++[((c+((limbs x).getD i 0))+((limbs y).getD i 0))%4294967296]).length) (I (by(try simp only[List.length_append,List.length_cons,List.length_nil])<;>omega:out.length+[((c+((limbs x).getD i 0))+((limbs y).getD i 0))%4294967296].length≤34359738371) (And.intro (hI.step2 (by omega) (by first|rfl|(have hq1:= @qr (limbs x) i;have hq2:= @qr (limbs y) i;omega)) (by omega):AddX x y (i+1) (((c+((limbs x).getD i 0))+((limbs y).getD i 0))/2^32) (out++[((c+((limbs x).getD i 0))+((limbs y).getD i 0))%4294967296])) (by have:=hI.le (by omega);omega:max (limbs x).length (limbs y).length+1-(i+1)<max (limbs x).length (limbs y).length+1-i))))))) (fun h5=>I (?_:out.length=out.length) (I (show(i+1)≤34359738371 by omega:Bnd (.nat .i64) (.n 34359738371) (i+1)) (I (by(try simp only[List.length_append,List.length_cons,List.length_nil])<;>omega:out.length+[(c+((limbs x).getD i 0))%4294967296].length=(out++[(c+((limbs x).getD i 0))%4294967296]).length) (I (by(try simp only[List.length_append,List.length_cons,List.length_nil])<;>omega:out.length+[(c+((limbs x).getD i 0))%4294967296].length≤34359738371) (And.intro (hI.step2 (by omega) (by first|rfl|(have hq1:= @qr (limbs x) i;have hq2:= @qr (limbs y) i;omega)) (by omega):AddX x y (i+1) ((c+((limbs x).getD i 0))/2^32) (out++[(c+((limbs x).getD i 0))%4294967296])) (by have:=hI.le (by omega);omega:max (limbs x).length (limbs y).length+1-(i+1)<max (limbs x).length (limbs y).length+1-i)))))))) (fun h6=>Sp (i<(limbs y).length) (fun h7=>I (?_:i<(limbs y).length) (I (?_:out.length=out.length) (I (show(i+1)≤34359738371 by omega:Bnd (.nat .i64) (.n 34359738371) (i+1)) (I (by(try simp only[List.length_append,List.length_cons,List.length_nil])<;>omega:out.length+[(c+((limbs y).getD i 0))%4294967296].length=(out++[(c+((limbs y).getD i 0))%4294967296]).length) (I (by(try simp only[List.length_append,List.length_cons,List.length_nil])<;>omega:out.length+[(c+((limbs y).getD i 0))%4294967296].length≤34359738371) (And.intro (hI.step2 (by omega) (by first|rfl|(have hq1:= @qr (limbs x) i;have hq2:= @qr (limbs y) i;omega)) (by omega):AddX x y (i+1) ((c+((limbs y).getD i 0))/2^32) (out++[(c+((limbs y).getD i 0))%4294967296])) (by have:=hI.le (by omega);omega:max (limbs x).length (limbs y).length+1-(i+1)<max (limbs x).length (limbs y).length+1-i))))))) (fun h8=>I (?_:out.length=out.length) (I (show(i+1)≤34359738371 by omega:Bnd (.nat .i64) (.n 34359738371) (i+1)) (I (by(try simp only[List.length_append,List.length_cons,List.length_nil])<;>omega:out.length+[c].length=(out++[c]).length) (I (by(try simp only[List.length_append,List.length_cons,List.length_nil])<;>omega:out.length+[c].length≤34359738371) (And.intro (hI.step2 (by omega) (by first|rfl|(have hq1:= @qr (limbs x) i;have hq2:= @qr (limbs y) i;omega)) (by omega):AddX x y (i+1) (c/2^32) (out++[c])) (by have:=hI.le (by omega);omega:max (limbs x).length (limbs y).length+1-(i+1)<max (limbs x).length (limbs y).length+1-i)))))))) (fun h9=>Sp (i<(limbs y).length) (fun h10=>Sp (i<(limbs x).length) (fun h11=>I (?_:i<(limbs x).length) (Sp (i<(limbs y).length) (fun h12=>I (?_:i<(limbs y).length) (I (?_:out.length=out.length) (I (show(i+1)≤34359738371 by omega:Bnd (.nat .i64) (.n 34359738371) (i+1)) (I (by(try simp only[List.length_append,List.length_cons,List.length_nil])<;>omega:out.length+[((c+((limbs x).getD i 0))+((limbs y).getD i 0))%4294967296].length=(out++[((c+((limbs x).getD i 0))+((limbs y).getD i 0))%4294967296]).length) (I (by(try simp only[List.length_append,List.length_cons,List.length_nil])<;>omega:out.length+[((c+((limbs x).getD i 0))+((limbs y).getD i 0))%4294967296].length≤34359738371) (And.intro (hI.step2 (by omega) (by first|rfl|(have hq1:= @qr (limbs x) i;have hq2:= @qr (limbs y) i;omega)) (by omega):AddX x y (i+1) (((c+((limbs x).getD i 0))+((limbs y).getD i 0))/2^32) (out++[((c+((limbs x).getD i 0))+((limbs y).getD i 0))%4294967296])) (by have:=hI.le (by omega);omega:max (limbs x).length (limbs y).length+1-(i+1)<max (limbs x).length (limbs y).length+1-i))))))) (fun h13=>I (?_:out.length=out.length) (I (show(i+1)≤34359738371 by omega:Bnd (.nat .i64) (.n 34359738371) (i+1)) (I (by(try simp only[List.length_append,List.length_cons,List.length_nil])<;>omega:out.length+[(c+((limbs x).getD i 0))%4294967296].length=(out++[(c+((limbs x).getD i 0))%4294967296]).length) (I (by(try simp only[List.length_append,List.length_cons,List.length_nil])<;>omega:out.length+[(c+((limbs x).getD i 0))%4294967296].length≤34359738371) (And.intro (hI.step2 (by omega) (by first|rfl|(have hq1:= @qr (limbs x) i;have hq2:= @qr (limbs y) i;omega)) (by omega):AddX x y (i+1) ((c+((limbs x).getD i 0))/2^32) (out++[(c+((limbs x).getD i 0))%4294967296])) (by have:=hI.le (by omega);omega:max (limbs x).length (limbs y).length+1-(i+1)<max (limbs x).length (limbs y).length+1-i)))))))) (fun h14=>Sp (i<(limbs y).length) (fun h15=>I (?_:i<(limbs y).length) (I (?_:out.length=out.length) (I (show(i+1)≤34359738371 by omega:Bnd (.nat .i64) (.n 34359738371) (i+1)) (I (by(try simp only[List.length_append,List.length_cons,List.length_nil])<;>omega:out.length+[(c+((limbs y).getD i 0))%4294967296].length=(out++[(c+((limbs y).getD i 0))%4294967296]).length) (I (by(try simp only[List.length_append,List.length_cons,List.length_nil])<;>omega:out.length+[(c+((limbs y).getD i 0))%4294967296].length≤34359738371) (And.intro (hI.step2 (by omega) (by first|rfl|(have hq1:= @qr (limbs x) i;have hq2:= @qr (limbs y) i;omega)) (by omega):AddX x y (i+1) ((c+((limbs y).getD i 0))/2^32) (out++[(c+((limbs y).getD i 0))%4294967296])) (by have:=hI.le (by omega);omega:max (limbs x).length (limbs y).length+1-(i+1)<max (limbs x).length (limbs y).length+1-i))))))) (fun h16=>I (?_:out.length=out.length) (I (show(i+1)≤34359738371 by omega:Bnd (.nat .i64) (.n 34359738371) (i+1)) (I (by(try simp only[List.length_append,List.length_cons,List.length_nil])<;>omega:out.length+[c].length=(out++[c]).length) (I (by(try simp only[List.length_append,List.length_cons,List.length_nil])<;>omega:out.length+[c].length≤34359738371) (And.intro (hI.step2 (by omega) (by first|rfl|(have hq1:= @qr (limbs x) i;have hq2:= @qr (limbs y) i;omega)) (by omega):AddX x y (i+1) (c/2^32) (out++[c])) (by have:=hI.le (by omega);omega:max (limbs x).length (limbs y).length+1-(i+1)<max (limbs x).length (limbs y).length+1-i)))))))) (fun h17=>Sp (c≠0) (fun h18=>Sp (i<(limbs x).length) (fun h19=>I (?_:i<(limbs x).length) (Sp (i<(limbs y).length) (fun h20=>I (?_:i<(limbs y).length) (I (?_:out.length=out.length) (I (show(i+1)≤34359738371 by omega:Bnd (.nat .i64) (.n 34359738371) (i+1)) (I (by(try simp only[List.length_append,List.length_cons,List.length_nil])<;>omega:out.length+[((c+((limbs x).getD i 0))+((limbs y).getD i 0))%4294967296].length=(out++[((c+((limbs x).getD i 0))+((limbs y).getD i 0))%4294967296]).length) (I (by(try simp only[List.length_append,List.length_cons,List.length_nil])<;>omega:out.length+[((c+((limbs x).getD i 0))+((limbs y).getD i 0))%4294967296].length≤34359738371) (And.intro (hI.step2 (by omega) (by first|rfl|(have hq1:= @qr (limbs x) i;have hq2:= @qr (limbs y) i;omega)) (by omega):AddX x y (i+1) (((c+((limbs x).getD i 0))+((limbs y).getD i 0))/2^32) (out++[((c+((limbs x).getD i 0))+((limbs y).getD i 0))%4294967296])) (by have:=hI.le (by omega);omega:max (limbs x).length (limbs y).length+1-(i+1)<max (limbs x).length (limbs y).length+1-i))))))) (fun h21=>I (?_:out.length=out.length) (I (show(i+1)≤34359738371 by omega:Bnd (.nat .i64) (.n 34359738371) (i+1)) (I (by(try simp only[List.length_append,List.length_cons,List.length_nil])<;>omega:out.length+[(c+((limbs x).getD i 0))%4294967296].length=(out++[(c+((limbs x).getD i 0))%4294967296]).length) (I (by(try simp only[List.length_append,List.length_cons,List.length_nil])<;>omega:out.length+[(c+((limbs x).getD i 0))%4294967296].length≤34359738371) (And.intro (hI.step2 (by omega) (by first|rfl|(have hq1:= @qr (limbs x) i;have hq2:= @qr (limbs y) i;omega)) (by omega):AddX x y (i+1) ((c+((limbs x).getD i 0))/2^32) (out++[(c+((limbs x).getD i 0))%4294967296])) (by have:=hI.le (by omega);omega:max (limbs x).length (limbs y).length+1-(i+1)<max (limbs x).length (limbs y).length+1-i)))))))) (fun h22=>Sp (i<(limbs y).length) (fun h23=>I (?_:i<(limbs y).length) (I (?_:out.length=out.length) (I (show(i+1)≤34359738371 by omega:Bnd (.nat .i64) (.n 34359738371) (i+1)) (I (by(try simp only[List.length_append,List.length_cons,List.length_nil])<;>omega:out.length+[(c+((limbs y).getD i 0))%4294967296].length=(out++[(c+((limbs y).getD i 0))%4294967296]).length) (I (by(try simp only[List.length_append,List.length_cons,List.length_nil])<;>omega:out.length+[(c+((limbs y).getD i 0))%4294967296].length≤34359738371) (And.intro (hI.step2 (by omega) (by first|rfl|(have hq1:= @qr (limbs x) i;have hq2:= @qr (limbs y) i;omega)) (by omega):AddX x y (i+1) ((c+((limbs y).getD i 0))/2^32) (out++[(c+((limbs y).getD i 0))%4294967296])) (by have:=hI.le (by omega);omega:max (limbs x).length (limbs y).length+1-(i+1)<max (limbs x).length (limbs y).length+1-i))))))) (fun h24=>I (?_:out.length=out.length) (I (show(i+1)≤34359738371 by omega:Bnd (.nat .i64) (.n 34359738371) (i+1)) (I (by(try simp only[List.length_append,List.length_cons,List.length_nil])<;>omega:out.length+[c].length=(out++[c]).length) (I (by(try simp only[List.length_append,List.length_cons,List.length_nil])<;>omega:out.length+[c].length≤34359738371) (And.intro (hI.step2 (by omega) (by first|rfl|(have hq1:= @qr (limbs x) i;have hq2:= @qr (limbs y) i;omega)) (by omega):AddX x y (i+1) (c/2^32) (out++[c])) (by have:=hI.le (by omega);omega:max (limbs x).length (limbs y).length+1-(i+1)<max (limbs x).length (limbs y).length+1-i)))))))) (fun h25=>I (?_:out.length=out.length) (I (hI.fin (by omega) (by omega) (by omega):out=limbs (x+y)) (I (q9 (by decide) (DQ hx0 hx1):lt2 (x+y) 1099511627777) ((Eq.refl (x+y)))))))))))⟩<;>omega)
abbrev q0y:Ctr Tryz.prog:=FI.c q0A
abbrev MZ:FO:=⟨225,[.mag,(.nat .i64)],[(.n 1099511627776),(.n 17179869184)],fun _=>[],fun k b z=>(fun(x:Nat)(j:Nat)=> .c (.one (.gs k ((limbs (x*4294967296^j)).length) 1 (((b0 b).nb+32*(b1 b).nb)/32+1)))) z.1 z.2,fun b z=>(fun(x:Nat)(j:Nat)=> .gro (.nat .u32) (.n 4294967295) (limbs (x*4294967296^j))) z.1 z.2⟩
theorem N0:MZ.OK Tryz.prog:=mkO hmix 12 11 Tryz.func225 rfl rfl (by decide) [] (fun _=>rfl) (fun _ _ _=>rfl) (fun _ _=>rfl) (fun _ _ _=>⟨rfl,rfl⟩) (fun(x:Nat)(j:Nat) k b hx hp=>⟨qa (qg (Nat.le_of_lt (Ht (Bnds.h2 hx).1.mag (Bnds.h2 hx).2.nat))) rfl,fun u hu=>Nat.le_of_lt_succ (qF _ u hu)⟩) (fun(x:Nat)(j:Nat) hx hp=>by
 have hx0:lt2 x 1099511627776:=hx.1
 have hl0:(limbs x).length≤34359738369:=qg (Nat.le_of_lt hx0)
 have hx1:j≤17179869184:=hx.2
 refine bodyO.g (.cond (.nil) (.h 3 1 (.mk (.gro (.nat .u32) (.n 4294967295))) (.nil))) (kcast (by kernel_rfl) (Sp ((limbs x).length=0) (fun h1=>And.intro (by rw[nl0.1 (show(limbs x).length=0 by assumption),Nat.zero_mul];rfl:([]:List Nat)=limbs (x*4294967296^j)) ((by rw[nl0.1 (show(limbs x).length=0 by assumption),Nat.zero_mul];rfl:0=(limbs (x*4294967296^j)).length))) (fun h2=>I (?_:j=j) (I ((List.length_replicate ..).symm:j=(List.replicate j (0:Nat)).length) (And.intro (Eo (mt nl0.2 (by assumption)):(List.replicate j (0:Nat))++(limbs x)=limbs (x*4294967296^j)) ((by rw[←Eo (mt nl0.2 (by assumption))];simp:j+(limbs x).length=(limbs (x*4294967296^j)).length)))))))<;>omega)
abbrev MY(k:Nat)(b:List Bd)(x:Nat)(j:Nat):WV:= .c (.one (.gs k ((limbs (x*4294967296^j)).length) 1 (((b0 b).nb+32*(b1 b).nb)/32+1)))
abbrev MX(b:List Bd)(x:Nat)(j:Nat):WB:= .gro (.nat .u32) (.n 4294967295) (limbs (x*4294967296^j))
theorem K8(d:Nat)(x:Nat)(j:Nat)(hx:Bnds [.mag,(.nat .i64)] [(.n 1099511627776),(.n 17179869184)] (x,j))(hp: ∀c0∈([]:List Prop),c0):SigG Tryz.prog 225 (argsE [.mag,(.nat .i64)] (x,j)) [] (MY d [(.n 1099511627776),(.n 17179869184)] x j).exp [(d,some (MX [(.n 1099511627776),(.n 17179869184)] x j).exp)]:=N0.sig d (x,j) hx hp
abbrev LE(b:Bd)(x k:Nat):WV:= .c (.one (.dt .mag b (x*4294967296^k)))
theorem Kr(x k:Nat)(hx:Bnds [.mag,.nat .i64] [.n 1099511627776,.n 17179869184] (x,k))(b:Bd):Sig Tryz.prog 225 (argsE [.mag,.nat .i64] (x,k)) (LE b x k).exp:=by
 have h:=frzO (K8 0 x k hx (by intro p hp;cases hp)) (by decide) rfl .u
 rw[magE (x*4294967296^k) .u b]at h;exact h
theorem PF(x:Nat)(z:Int)(h:0≤z):argsE [.mag,.int .i64] (x,z)=argsE [.mag,.nat .i64] (x,z.toNat):=by
 obtain⟨n,rfl⟩:=Int.eq_ofNat_of_zero_le h;rfl
def vD:Ctr Tryz.prog:=⟨225,[.mag,.int .i64],[.n 1099511627776,.n 17179869184],fun z=>[0≤z.2],fun b z=>LE (.n ((b0 b).nb+32*(b1 b).nb)) z.1 z.2.toNat,
 fun z hx hp=>by
  have h0:0≤z.2:=hp _ List.mem_cons_self
  have h:=Kr z.1 z.2.toNat ⟨hx.1,by have h2:Int.natAbs z.2≤17179869184:=hx.2;show z.2.toNat≤_;omega⟩ (.n (1099511627776+32*17179869184))
  rw[←PF z.1 z.2 h0]at h;exact h,
 fun _ _=>rfl,fun b z hx hp=>qa (Ht (Bnds.h2 hx).1.mag (by have h2:=(Bnds.h2 hx).2.int;show z.2.toNat≤_;omega)) rfl⟩
abbrev q2k:FI:=⟨224,[.mag,(.nat .i64)],[(.n 1030792151040),(.n 68719476736)],fun _=>[],fun b z=>(fun(x:Nat)(s:Nat)=> .c (.one (.dt .mag (.n ((b0 b).nb+(b1 b).nb)) (x*2^s)))) z.1 z.2⟩
theorem q2l:q2k.OK Tryz.prog:=mkF hmix 40 Tryz.func224 rfl rfl (by decide) [] (fun(x:Nat)(s:Nat) b hx hp=>qa (YG (Bnds.h2 hx).1.mag (Bnds.h2 hx).2.nat) rfl) (fun(x:Nat)(s:Nat) hx hp=>by
 have hx0:lt2 x 1030792151040:=hx.1
 have hl0:(limbs x).length≤32212254721:=qg (Nat.le_of_lt hx0)
 have hx1:s≤68719476736:=hx.2
 refine⟨.h 1 2 (.mk (.gro (.nat .u32) (.n 4294967295))) (.loop [.s 7 (.nat .i64) (.n 32212254721),.s 6 (.nat .u64) (.n 4294967295),.g 5 90005 (.nat .u32) (.n 4294967295) 100931731457] (fun((i,c,out):Nat×Nat×List Nat)=>UpX x s i c out) (fun((i,c,out):Nat×Nat×List Nat)=>(limbs x).length-i) (fun((i,c,out):Nat×Nat×List Nat)=> .cond (.h 6 8 (.i (.n (((limbs x).getD i 0)*2^(s%32)) 18446744073709551615)) (.h 6 9 (.i (.n (c+(((limbs x).getD i 0)*2^(s%32))) 18446744073709551615)) (.h 7 3 (.mk (.im (.nat .u32) (.n 4294967295))) (.nil)))) (.h 9 3 (.mk (.im (.nat .u32) (.n 4294967295))) (.pre 1009005 (.frz 38 true [38]) (.h 9 5 (.c wv) (.nil)))))),kcast (by kernel_rfl) (I (?_:s/32=s/32) (I (by simp<;>omega:s/32=(List.replicate (s/32) (0:Nat)).length) (I (UpX.start x s:UpX x s 0 0 (List.replicate (s/32) (0:Nat))) (fun(i:Nat)(c:Nat)(out:List Nat)(hb1:HB [.s 7 (.nat .i64) (.n 32212254721),.s 6 (.nat .u64) (.n 4294967295),.g 5 90005 (.nat .u32) (.n 4294967295) 100931731457] (i,c,out))(hI:UpX x s i c out)=>have hv4:=(show i≤32212254721 from hb1.1);have hv5:=(show c≤4294967295 from hb1.2.1);have hv6:=(show out.length≤100931731457 from hb1.2.2.1);have hIl:=hI.hl;have hIi:=hI.hi;have hIc:=hI.hc;have hg1:=q8 x i;have hbd:=q2g hI;Sp (i<(limbs x).length) (fun h2=>I (?_:i<(limbs x).length) (I (Fa _ _ (by omega) (AX hg1 (by omega)):qw .shl .u64 (((limbs x).getD i 0:Nat):Int) ((s%32:Nat):Int) ((((limbs x).getD i 0)*2^(s%32):Nat):Int)) (I (Nat.le_of_lt_succ (AX hg1 (by omega)):((limbs x).getD i 0)*2^(s%32)≤18446744073709551615) (I (F9 _ _ rfl hIc hbd:qw .or .u64 (c:Int) ((((limbs x).getD i 0)*2^(s%32):Nat):Int) ((c+(((limbs x).getD i 0)*2^(s%32)):Nat):Int)) (I (Nat.le_of_lt_succ hbd:c+(((limbs x).getD i 0)*2^(s%32))≤18446744073709551615) (I (?_:out.length=out.length) (I (show(i+1)≤32212254721 by omega:Bnd (.nat .i64) (.n 32212254721) (i+1)) (I (by(try simp only[List.length_append,List.length_cons,List.length_nil])<;>omega:out.length+[(c+(((limbs x).getD i 0)*2^(s%32)))%4294967296].length=(out++[(c+(((limbs x).getD i 0)*2^(s%32)))%4294967296]).length) (I (by(try simp only[List.length_append,List.length_cons,List.length_nil])<;>omega:out.length+[(c+(((limbs x).getD i 0)*2^(s%32)))%4294967296].length≤100931731457) (And.intro (hI.step (by omega) rfl:UpX x s (i+1) ((c+(((limbs x).getD i 0)*2^(s%32)))/2^32) (out++[(c+(((limbs x).getD i 0)*2^(s%32)))%4294967296])) (?_:(limbs x).length-(i+1)<(limbs x).length-i))))))))))) (fun h3=>have hF:=hI.fin (by omega);I (?_:out.length=out.length) (I (by(try simp only[List.length_append,List.length_cons,List.length_nil])<;>omega:out.length+[c].length=(out++[c]).length) (I (hF.2: ∀u∈out++[c],u<4294967296) ((hF.1:valL (out++[c])=x*2^s)))))))))⟩<;>omega)
abbrev q2j:Ctr Tryz.prog:=FI.c q2l
abbrev Xl:FI:=⟨227,[.mag,(.nat .i64)],[(.n 1099511627776),(.n 1099511627776)],fun _=>[],fun b z=>(fun(x:Nat)(s:Nat)=> .c (.one (.dt .mag (.n ((b0 b).nb)) (x/2^s)))) z.1 z.2⟩
theorem Xm:Xl.OK Tryz.prog:=mkF hmix 55 Tryz.func227 rfl rfl (by decide) [] (fun(x:Nat)(s:Nat) b hx hp=>qa ((Bnds.h2 hx).1.magLe (Nat.div_le_self _ _)).mag rfl) (fun(x:Nat)(s:Nat) hx hp=>by
 have hx0:lt2 x 1099511627776:=hx.1
 have hl0:(limbs x).length≤34359738369:=qg (Nat.le_of_lt hx0)
 have hx1:s≤1099511627776:=hx.2
 refine⟨.cond (.nil) ((fun(w:Nat)=> .h 3 3 (.mag w 1099511627776) (.h 4 2 (.mk (.arr (.nat .u32) (.n 4294967295))) (.loop [.s 6 (.nat .i64) (.n 34359738369),.a 19 (.nat .u32) (.n 4294967295)] (fun((i,out):Nat×List Nat)=>DownX w (s%32) i out) (fun((i,out):Nat×List Nat)=>(limbs w).length-i) (fun((i,out):Nat×List Nat)=> .cond (.cond (.h 10 8 (.i (.n (((limbs w).getD i 0)+(((limbs w).getD (i+1) 0)*2^32)) 18446744073709551615)) (.h 11 5 (.i (.n ((((limbs w).getD i 0)+(((limbs w).getD (i+1) 0)*2^32))/2^(s%32)) 18446744073709551615)) (.nil))) (.h 11 5 (.i (.n (((limbs w).getD i 0)/2^(s%32)) 18446744073709551615)) (.nil))) (.pre 12 (.frz 19 true [5]) (.h 12 1 (.c wv) (.nil))))))) (x/4294967296^(s/32))),kcast (by kernel_rfl) (And.intro (fun(h1:(limbs x).length≤s/32)=>(Nn (by omega):0=x/2^s)) (fun(h2: ¬((limbs x).length≤s/32))=>(fun(w:Nat)(hw:w=x/4294967296^(s/32))=>I (by omega:s/32≤(limbs x).length) (I (by rw[hw];exact C1 _ _:(limbs x).drop (s/32)=limbs w) (I (by rw[hw];exact Aq hx0 (Nat.div_le_self _ _):lt2 w 1099511627776) (have hlw:=(qg (Nat.le_of_lt (show lt2 w 1099511627776 by rw[hw];exact Aq hx0 (Nat.div_le_self _ _))):(limbs w).length≤34359738369);I (by omega:(limbs w).length=(limbs w).length) (I (DownX.start w (s%32):DownX w (s%32) 0 (List.replicate ((limbs w).length) (0:Nat))) (fun(i:Nat)(out:List Nat)(hb3:HB [.s 6 (.nat .i64) (.n 34359738369),.a 19 (.nat .u32) (.n 4294967295)] (i,out))(hI:DownX w (s%32) i out)=>have hv8:=(show i≤34359738369 from hb3.1);have hv9:=(show∀u∈out,u≤4294967295 from hb3.2);have hIl:=hI.hl;have hIi:=hI.hi;have hg1:=q8 w i;have hg2:=q8 w (i+1);And.intro (fun(h4:i<(limbs w).length)=>I (by omega:i<(limbs w).length) (And.intro (fun(h5:i+1<(limbs w).length)=>I (by omega:i+1<(limbs w).length) (I (F9 _ 32 rfl hg1 (by omega):qw .or .u64 (((limbs w).getD i 0:Nat):Int) ((((limbs w).getD (i+1) 0)*2^32:Nat):Int) ((((limbs w).getD i 0)+(((limbs w).getD (i+1) 0)*2^32):Nat):Int)) (I (by omega:((limbs w).getD i 0)+(((limbs w).getD (i+1) 0)*2^32)≤18446744073709551615) (I (Ip _ _ (by simp[IntKind.bits];omega):qw .shr .u64 ((((limbs w).getD i 0)+(((limbs w).getD (i+1) 0)*2^32):Nat):Int) ((s%32:Nat):Int) (((((limbs w).getD i 0)+(((limbs w).getD (i+1) 0)*2^32))/2^(s%32):Nat):Int)) (I (Nat.le_trans (Nat.div_le_self _ _) (by omega):(((limbs w).getD i 0)+(((limbs w).getD (i+1) 0)*2^32))/2^(s%32)≤18446744073709551615) (I (by omega:i<(limbs w).length) (I (by omega:i<out.length) (I (show(i+1)≤34359738369 by omega:Bnd (.nat .i64) (.n 34359738369) (i+1)) (And.intro (hI.step (by omega) (by omega) (by first|rfl|(have hq1:= @qr (limbs w) (i+1);omega)):DownX w (s%32) (i+1) (out.set i (((((limbs w).getD i 0)+(((limbs w).getD (i+1) 0)*2^32))/2^(s%32))%4294967296))) (by omega:(limbs w).length-(i+1)<(limbs w).length-i)))))))))) (fun(h6: ¬(i+1<(limbs w).length))=>I (Ip _ _ (by simp[IntKind.bits];omega):qw .shr .u64 (((limbs w).getD i 0:Nat):Int) ((s%32:Nat):Int) ((((limbs w).getD i 0)/2^(s%32):Nat):Int)) (I (Nat.le_trans (Nat.div_le_self _ _) (by omega):((limbs w).getD i 0)/2^(s%32)≤18446744073709551615) (I (by omega:i<(limbs w).length) (I (by omega:i<out.length) (I (show(i+1)≤34359738369 by omega:Bnd (.nat .i64) (.n 34359738369) (i+1)) (And.intro (hI.step (by omega) (by omega) (by first|rfl|(have hq1:= @qr (limbs w) (i+1);omega)):DownX w (s%32) (i+1) (out.set i ((((limbs w).getD i 0)/2^(s%32))%4294967296))) (by omega:(limbs w).length-(i+1)<(limbs w).length-i))))))))) (fun(h7: ¬(i<(limbs w).length))=>I (by omega:(limbs w).length=out.length) (have hF:=hI.fin (by omega);I (hI.hu: ∀u∈out,u<4294967296) ((by rw[hF,hw];exact IE x s:valL out=x/2^s)))))))))) (x/4294967296^(s/32)) rfl))⟩)
abbrev Xk:Ctr Tryz.prog:=FI.c Xm
abbrev q0D:FI:=⟨149,[.mag,.mag],[(.n 137438953536),(.n 137438953536)],fun z=>(fun(x:Nat)(y:Nat)=>[0<y]) z.1 z.2,fun b z=>(fun(x:Nat)(y:Nat)=> .tup [.one (.dt .mag (b0 b) (x/y)),.one (.dt .mag (b1 b) (x%y)),.one (.kn .i64 0)]) z.1 z.2⟩
theorem q0E:q0D.OK Tryz.prog:=mkF hmix 163 Tryz.func149 rfl rfl (by decide) [(82,.c Dw),(147,.c H3),(150,.c Ig),(193,.c K7),(221,.c K9),(222,.c Ps),(223,.c Xh),(224,.c q2j),(226,.c S5),(227,.c Xk)] (fun(x:Nat)(y:Nat) b hx hp=>qu (qa ((Bnds.h2 hx).1.magLe (Nat.div_le_self _ _)) rfl) (qu (qa ((Bnds.h2 hx).2.magLe (Nat.le_of_lt (Nat.mod_lt _ (hp _ (List.mem_cons_self))))) rfl) (qu SA jh))) (fun(x:Nat)(y:Nat) hx hp=>by
 have hx0:lt2 x 137438953536:=hx.1
 have hl0:(limbs x).length≤4294967299:=qg (Nat.le_of_lt hx0)
 have hx1:lt2 y 137438953536:=hx.2
 have hl1:(limbs y).length≤4294967299:=qg (Nat.le_of_lt hx1)
 have hp0:0<y:=hp _ (List.mem_cons_self)
 have hyp:=mt (nl0 (x:=y)).1 (show¬y=0 by omega)
 refine⟨.cond (.dead) (.cond (.nil) (.cond (.nil) (.cond (.nil) (.h 12 3 (.i .sub) (.h 12 4 (.mag (y/4294967296^((limbs y).length-1)) 32) (.h 12 6 (.i .sub) ((fun(s:Nat)=> .h 15 3 (.i .sub) ((fun(L:Nat)=> .h 15 5 (.mk (.arr (.nat .u32) (.n 4294967295))) (.loop [.s 15 (.int .i64) (.n 17179869184),.s 5 .mag (.n 137438953568),.a 82 (.nat .u32) (.n 4294967295)] (fun((z,r,ql):Int×Nat×List Nat)=>DX (x*2^s) (y*2^s) L z ql r) (fun((z,r,ql):Int×Nat×List Nat)=>(z+1).toNat) (fun((z,r,ql):Int×Nat×List Nat)=> .cond (.cond (.h 21 4 (.ix (z.toNat+(limbs (y*2^s)).length)) (.cond (.h 23 7 (.ix (z.toNat+(limbs (y*2^s)).length-1)) (.h 23 10 (.i (.n ((((limbs r).getD (z.toNat+(limbs (y*2^s)).length) 0)*2^32)+((limbs r).getD (z.toNat+(limbs (y*2^s)).length-1) 0)) 18446744073709551615)) (.h 25 3 (.i .sub) (.h 26 5 (.c vD) (.loop [.s 17 (.nat .u64) (.n 4294967295),.s 18 .mag (.n 1099511627776)] (fun((d,p):Nat×Nat)=>EX (y*2^s) z.toNat r d p) (fun((d,p):Nat×Nat)=>d) (fun((d,p):Nat×Nat)=> .cond (.h 28 1 (.i .sub) (.h 29 3 (.c vD) (.nil))) (.h 30 4 (.ix z.toNat) (.nil)))))))) (.h 25 3 (.i .sub) (.h 26 5 (.c vD) (.loop [.s 17 (.nat .u64) (.n 4294967295),.s 18 .mag (.n 1099511627776)] (fun((d,p):Nat×Nat)=>EX (y*2^s) z.toNat r d p) (fun((d,p):Nat×Nat)=>d) (fun((d,p):Nat×Nat)=> .cond (.h 28 1 (.i .sub) (.h 29 3 (.c vD) (.nil))) (.h 30 4 (.ix z.toNat) (.nil)))))))) (.cond (.h 23 7 (.ix (z.toNat+(limbs (y*2^s)).length-1)) (.h 23 10 (.i (.n (0+((limbs r).getD (z.toNat+(limbs (y*2^s)).length-1) 0)) 18446744073709551615)) (.h 25 3 (.i .sub) (.h 26 5 (.c vD) (.loop [.s 17 (.nat .u64) (.n 4294967295),.s 18 .mag (.n 1099511627776)] (fun((d,p):Nat×Nat)=>EX (y*2^s) z.toNat r d p) (fun((d,p):Nat×Nat)=>d) (fun((d,p):Nat×Nat)=> .cond (.h 28 1 (.i .sub) (.h 29 3 (.c vD) (.nil))) (.h 30 4 (.ix z.toNat) (.nil)))))))) (.h 25 3 (.i .sub) (.h 26 5 (.c vD) (.loop [.s 17 (.nat .u64) (.n 4294967295),.s 18 .mag (.n 1099511627776)] (fun((d,p):Nat×Nat)=>EX (y*2^s) z.toNat r d p) (fun((d,p):Nat×Nat)=>d) (fun((d,p):Nat×Nat)=> .cond (.h 28 1 (.i .sub) (.h 29 3 (.c vD) (.nil))) (.h 30 4 (.ix z.toNat) (.nil)))))))) (.pre 32 (.frz 82 true [4]) (.h 32 1 (.c wv) (.nil)))))) ((((limbs (x*2^s)).length) -((limbs (y*2^s)).length))+1))) (32-(bl (y/4294967296^((limbs y).length-1))))))))))),kcast (by kernel_rfl) (And.intro (fun(h1:(limbs y).length=0)=>(absurd (nl0.1 h1) (by omega):False)) (fun(h2: ¬((limbs y).length=0))=>And.intro (fun(h3:cmpN x y<0)=>And.intro ((Nat.div_eq_of_lt (jf.1 (by omega))).symm:0=x/y) ((Nat.mod_eq_of_lt (jf.1 (by omega))).symm:x=x%y)) (fun(h4: ¬(cmpN x y<0))=>have hyx:=(show y≤x from Nat.le_of_not_lt (mt jf.2 (by assumption)));have hly:=jZ hyx;And.intro (fun(h5:xk x=true)=>have hlx:=(show(limbs x).length≤2 from of_decide_eq_true (by assumption));have hxx:=(xw_y hlx).1;have hxy:=(xw_y (x:=y) (by omega)).1;I (by omega:0<xw y) (I (by omega:0<xw y) (And.intro (by rw[(xw_y (x:=x) (by assumption)).1,(xw_y (x:=y) (by omega)).1]:(xw x)/(xw y)=x/y) (by rw[(xw_y (x:=x) (by assumption)).1,(xw_y (x:=y) (by omega)).1]:(xw x)%(xw y)=x%y)))) (fun(h6: ¬(xk x=true))=>And.intro (fun(h7:(limbs y).length=1)=>have hy1:=(show(limbs y).getD 0 0=y from M8 (by omega));I (by omega:0<(limbs y).length) (I (by omega:0<(limbs y).getD 0 0) (And.intro (by rw[hy1]:x/((limbs y).getD 0 0)=x/y) (by rw[hy1]:x%((limbs y).getD 0 0)=x%y)))) (fun(h8: ¬((limbs y).length=1))=>have hb32:=(Fb Gw:bl (y/4294967296^((limbs y).length-1))≤32);I (by omega:1≤(limbs y).length) (I (by omega:((limbs y).length) -1≤(limbs y).length) (I (C1 _ _:(limbs y).drop (((limbs y).length) -1)=limbs (y/4294967296^((limbs y).length-1))) (I (Gw:lt2 (y/4294967296^((limbs y).length-1)) 32) (I (Fb Gw:bl (y/4294967296^((limbs y).length-1))≤32) ((fun(s:Nat)(hs:s=32-(bl (y/4294967296^((limbs y).length-1))))=>have hs32:=(show s≤32 by omega);have hV0:=(Nat.mul_pos hp0 (Nat.pow_pos (by omega)):0<y*2^s);have hVA:=(jZ (Nat.mul_le_mul_right _ hyx):(limbs (y*2^s)).length≤(limbs (x*2^s)).length);have hV1:=(Nat.pos_of_ne_zero (mt nl0.1 (by omega)):0<(limbs (y*2^s)).length);have hvt:=zC hV1;I (by omega:(limbs (y*2^s)).length≤(limbs (x*2^s)).length) ((fun(L:Nat)(hL:L=(((limbs (x*2^s)).length) -((limbs (y*2^s)).length))+1)=>I (by omega:L=L) (I (by subst hL;exact DX.start (n:=(limbs (y*2^s)).length) (by omega) rfl (by omega) rfl:DX (x*2^s) (y*2^s) L ((((limbs (x*2^s)).length:Nat):Int) -(((limbs (y*2^s)).length:Nat):Int)) (List.replicate L (0:Nat)) (x*2^s)) (fun(z:Int)(r:Nat)(ql:List Nat)(hb9:HB [.s 15 (.int .i64) (.n 17179869184),.s 5 .mag (.n 137438953568),.a 82 (.nat .u32) (.n 4294967295)] (z,r,ql))(hD:DX (x*2^s) (y*2^s) L z ql r)=>have hv34:=(show Int.natAbs z≤17179869184 from hb9.1);have hv35:=(show∀u∈ql,u≤4294967295 from hb9.2.2);have hDz:=hD.hz;have hDz1:=hD.hz1;have hDl:=hD.hl;And.intro (fun(h10:0≤z)=>have hr1:=q8 r (z.toNat+(limbs (y*2^s)).length);have hr2:=q8 r (z.toNat+(limbs (y*2^s)).length-1);And.intro (fun(h11:z+(((limbs (y*2^s)).length:Nat):Int)<(((limbs r).length:Nat):Int))=>I (by omega:z+(((limbs (y*2^s)).length:Nat):Int)=((z.toNat+(limbs (y*2^s)).length:Nat):Int)) (I (by omega:z.toNat+(limbs (y*2^s)).length<(limbs r).length) (And.intro (fun(h12:(z+(((limbs (y*2^s)).length:Nat):Int)) -1<(((limbs r).length:Nat):Int))=>I (by omega:(z+(((limbs (y*2^s)).length:Nat):Int)) -1=((z.toNat+(limbs (y*2^s)).length-1:Nat):Int)) (I (by omega:z.toNat+(limbs (y*2^s)).length-1<(limbs r).length) (I (AD _ 32 rfl (q8 _ _) (by omega):qw .or .u64 ((((limbs r).getD (z.toNat+(limbs (y*2^s)).length) 0)*2^32:Nat):Int) (((limbs r).getD (z.toNat+(limbs (y*2^s)).length-1) 0:Nat):Int) (((((limbs r).getD (z.toNat+(limbs (y*2^s)).length) 0)*2^32)+((limbs r).getD (z.toNat+(limbs (y*2^s)).length-1) 0):Nat):Int)) (I (by omega:(((limbs r).getD (z.toNat+(limbs (y*2^s)).length) 0)*2^32)+((limbs r).getD (z.toNat+(limbs (y*2^s)).length-1) 0)≤18446744073709551615) (have hT:=(show(((limbs r).getD (z.toNat+(limbs (y*2^s)).length) 0)*2^32)+((limbs r).getD (z.toNat+(limbs (y*2^s)).length-1) 0)=(limbs r).getD (z.toNat+(limbs (y*2^s)).length) 0*4294967296+(limbs r).getD (z.toNat+(limbs (y*2^s)).length-1) 0 from by(have hq1:= @qr (limbs r) (z.toNat+(limbs (y*2^s)).length);have hq2:= @qr (limbs r) (z.toNat+(limbs (y*2^s)).length-1);omega));I (by omega:1≤(limbs (y*2^s)).length) (I (by omega:((limbs (y*2^s)).length) -1<(limbs (y*2^s)).length) (I (by omega:0<(limbs (y*2^s)).getD (((limbs (y*2^s)).length) -1) 0) (I (by omega:0≤z) (I (hD.est (by omega) rfl hV0 (by omega) rfl hT:EX (y*2^s) z.toNat r (min (((((limbs r).getD (z.toNat+(limbs (y*2^s)).length) 0)*2^32)+((limbs r).getD (z.toNat+(limbs (y*2^s)).length-1) 0))/((limbs (y*2^s)).getD (((limbs (y*2^s)).length) -1) 0)) 4294967295) (((y*2^s)*(min (((((limbs r).getD (z.toNat+(limbs (y*2^s)).length) 0)*2^32)+((limbs r).getD (z.toNat+(limbs (y*2^s)).length-1) 0))/((limbs (y*2^s)).getD (((limbs (y*2^s)).length) -1) 0)) 4294967295))*4294967296^z.toNat)) (fun(d:Nat)(p:Nat)(hb13:HB [.s 17 (.nat .u64) (.n 4294967295),.s 18 .mag (.n 1099511627776)] (d,p))(hE:EX (y*2^s) z.toNat r d p)=>have hv16:=(show d≤4294967295 from hb13.1);And.intro (fun(h14:0<cmpN p r)=>have hG:=hE.gt hV0 (zO.1 (by assumption));I (by omega:1≤d) (I (by omega:0≤z) (I (hG.2.1:(y*2^s)*4294967296^z.toNat≤p) (And.intro (hG.2.2:EX (y*2^s) z.toNat r (d-1) (p-((y*2^s)*4294967296^z.toNat))) (by have:=hG.1;omega:d-1<d))))) (fun(h15: ¬(0<cmpN p r))=>have hle:=(show p≤r from Nat.le_of_not_lt (mt zO.2 (by assumption)));I (by omega:z=((z.toNat:Nat):Int)) (I (by omega:z.toNat<L) (I (by omega:z.toNat<ql.length) (I (hle:p≤r) (I (show Int.natAbs (z-1)≤17179869184 by omega:Bnd (.int .i64) (.n 17179869184) (z-1)) (And.intro (hD.next (by omega) rfl hV0 hE hle:DX (x*2^s) (y*2^s) L (z-1) (ql.set z.toNat d) (r-p)) (by omega:((z-1)+1).toNat<(z+1).toNat))))))))))))))))) (fun(h17: ¬((z+(((limbs (y*2^s)).length:Nat):Int)) -1<(((limbs r).length:Nat):Int)))=>have hT:=(show((limbs r).getD (z.toNat+(limbs (y*2^s)).length) 0)*2^32=(limbs r).getD (z.toNat+(limbs (y*2^s)).length) 0*4294967296+(limbs r).getD (z.toNat+(limbs (y*2^s)).length-1) 0 from by(have hq1:= @qr (limbs r) (z.toNat+(limbs (y*2^s)).length);have hq2:= @qr (limbs r) (z.toNat+(limbs (y*2^s)).length-1);omega));I (by omega:1≤(limbs (y*2^s)).length) (I (by omega:((limbs (y*2^s)).length) -1<(limbs (y*2^s)).length) (I (by omega:0<(limbs (y*2^s)).getD (((limbs (y*2^s)).length) -1) 0) (I (by omega:0≤z) (I (hD.est (by omega) rfl hV0 (by omega) rfl hT:EX (y*2^s) z.toNat r (min ((((limbs r).getD (z.toNat+(limbs (y*2^s)).length) 0)*2^32)/((limbs (y*2^s)).getD (((limbs (y*2^s)).length) -1) 0)) 4294967295) (((y*2^s)*(min ((((limbs r).getD (z.toNat+(limbs (y*2^s)).length) 0)*2^32)/((limbs (y*2^s)).getD (((limbs (y*2^s)).length) -1) 0)) 4294967295))*4294967296^z.toNat)) (fun(d:Nat)(p:Nat)(hb18:HB [.s 17 (.nat .u64) (.n 4294967295),.s 18 .mag (.n 1099511627776)] (d,p))(hE:EX (y*2^s) z.toNat r d p)=>have hv21:=(show d≤4294967295 from hb18.1);And.intro (fun(h19:0<cmpN p r)=>have hG:=hE.gt hV0 (zO.1 (by assumption));I (by omega:1≤d) (I (by omega:0≤z) (I (hG.2.1:(y*2^s)*4294967296^z.toNat≤p) (And.intro (hG.2.2:EX (y*2^s) z.toNat r (d-1) (p-((y*2^s)*4294967296^z.toNat))) (by have:=hG.1;omega:d-1<d))))) (fun(h20: ¬(0<cmpN p r))=>have hle:=(show p≤r from Nat.le_of_not_lt (mt zO.2 (by assumption)));I (by omega:z=((z.toNat:Nat):Int)) (I (by omega:z.toNat<L) (I (by omega:z.toNat<ql.length) (I (hle:p≤r) (I (show Int.natAbs (z-1)≤17179869184 by omega:Bnd (.int .i64) (.n 17179869184) (z-1)) (And.intro (hD.next (by omega) rfl hV0 hE hle:DX (x*2^s) (y*2^s) L (z-1) (ql.set z.toNat d) (r-p)) (by omega:((z-1)+1).toNat<(z+1).toNat)))))))))))))))) (fun(h22: ¬(z+(((limbs (y*2^s)).length:Nat):Int)<(((limbs r).length:Nat):Int)))=>And.intro (fun(h23:(z+(((limbs (y*2^s)).length:Nat):Int)) -1<(((limbs r).length:Nat):Int))=>I (by omega:(z+(((limbs (y*2^s)).length:Nat):Int)) -1=((z.toNat+(limbs (y*2^s)).length-1:Nat):Int)) (I (by omega:z.toNat+(limbs (y*2^s)).length-1<(limbs r).length) (I (XH (q8 _ _):qw .or .u64 0 (((limbs r).getD (z.toNat+(limbs (y*2^s)).length-1) 0:Nat):Int) ((0+((limbs r).getD (z.toNat+(limbs (y*2^s)).length-1) 0):Nat):Int)) (I (by omega:0+((limbs r).getD (z.toNat+(limbs (y*2^s)).length-1) 0)≤18446744073709551615) (have hT:=(show 0+((limbs r).getD (z.toNat+(limbs (y*2^s)).length-1) 0)=(limbs r).getD (z.toNat+(limbs (y*2^s)).length) 0*4294967296+(limbs r).getD (z.toNat+(limbs (y*2^s)).length-1) 0 from by(have hq1:= @qr (limbs r) (z.toNat+(limbs (y*2^s)).length);have hq2:= @qr (limbs r) (z.toNat+(limbs (y*2^s)).length-1);omega));I (by omega:1≤(limbs (y*2^s)).length) (I (by omega:((limbs (y*2^s)).length) -1<(limbs (y*2^s)).length) (I (by omega:0<(limbs (y*2^s)).getD (((limbs (y*2^s)).length) -1) 0) (I (by omega:0≤z) (I (hD.est (by omega) rfl hV0 (by omega) rfl hT:EX (y*2^s) z.toNat r (min ((0+((limbs r).getD (z.toNat+(limbs (y*2^s)).length-1) 0))/((limbs (y*2^s)).getD (((limbs (y*2^s)).length) -1) 0)) 4294967295) (((y*2^s)*(min ((0+((limbs r).getD (z.toNat+(limbs (y*2^s)).length-1) 0))/((limbs (y*2^s)).getD (((limbs (y*2^s)).length) -1) 0)) 4294967295))*4294967296^z.toNat)) (fun(d:Nat)(p:Nat)(hb24:HB [.s 17 (.nat .u64) (.n 4294967295),.s 18 .mag (.n 1099511627776)] (d,p))(hE:EX (y*2^s) z.toNat r d p)=>have hv27:=(show d≤4294967295 from hb24.1);And.intro (fun(h25:0<cmpN p r)=>have hG:=hE.gt hV0 (zO.1 (by assumption));I (by omega:1≤d) (I (by omega:0≤z) (I (hG.2.1:(y*2^s)*4294967296^z.toNat≤p) (And.intro (hG.2.2:EX (y*2^s) z.toNat r (d-1) (p-((y*2^s)*4294967296^z.toNat))) (by have:=hG.1;omega:d-1<d))))) (fun(h26: ¬(0<cmpN p r))=>have hle:=(show p≤r from Nat.le_of_not_lt (mt zO.2 (by assumption)));I (by omega:z=((z.toNat:Nat):Int)) (I (by omega:z.toNat<L) (I (by omega:z.toNat<ql.length) (I (hle:p≤r) (I (show Int.natAbs (z-1)≤17179869184 by omega:Bnd (.int .i64) (.n 17179869184) (z-1)) (And.intro (hD.next (by omega) rfl hV0 hE hle:DX (x*2^s) (y*2^s) L (z-1) (ql.set z.toNat d) (r-p)) (by omega:((z-1)+1).toNat<(z+1).toNat))))))))))))))))) (fun(h28: ¬((z+(((limbs (y*2^s)).length:Nat):Int)) -1<(((limbs r).length:Nat):Int)))=>have hT:=(show 0=(limbs r).getD (z.toNat+(limbs (y*2^s)).length) 0*4294967296+(limbs r).getD (z.toNat+(limbs (y*2^s)).length-1) 0 from by(have hq1:= @qr (limbs r) (z.toNat+(limbs (y*2^s)).length);have hq2:= @qr (limbs r) (z.toNat+(limbs (y*2^s)).length-1);omega));I (by omega:1≤(limbs (y*2^s)).length) (I (by omega:((limbs (y*2^s)).length) -1<(limbs (y*2^s)).length) (I (by omega:0<(limbs (y*2^s)).getD (((limbs (y*2^s)).length) -1) 0) (I (by omega:0≤z) (I (hD.est (by omega) rfl hV0 (by omega) rfl hT:EX (y*2^s) z.toNat r (min (0/((limbs (y*2^s)).getD (((limbs (y*2^s)).length) -1) 0)) 4294967295) (((y*2^s)*(min (0/((limbs (y*2^s)).getD (((limbs (y*2^s)).length) -1) 0)) 4294967295))*4294967296^z.toNat)) (fun(d:Nat)(p:Nat)(hb29:HB [.s 17 (.nat .u64) (.n 4294967295),.s 18 .mag (.n 1099511627776)] (d,p))(hE:EX (y*2^s) z.toNat r d p)=>have hv32:=(show d≤4294967295 from hb29.1);And.intro (fun(h30:0<cmpN p r)=>have hG:=hE.gt hV0 (zO.1 (by assumption));I (by omega:1≤d) (I (by omega:0≤z) (I (hG.2.1:(y*2^s)*4294967296^z.toNat≤p) (And.intro (hG.2.2:EX (y*2^s) z.toNat r (d-1) (p-((y*2^s)*4294967296^z.toNat))) (by have:=hG.1;omega:d-1<d))))) (fun(h31: ¬(0<cmpN p r))=>have hle:=(show p≤r from Nat.le_of_not_lt (mt zO.2 (by assumption)));I (by omega:z=((z.toNat:Nat):Int)) (I (by omega:z.toNat<L) (I (by omega:z.toNat<ql.length) (I (hle:p≤r) (I (show Int.natAbs (z-1)≤17179869184 by omega:Bnd (.int .i64) (.n 17179869184) (z-1)) (And.intro (hD.next (by omega) rfl hV0 hE hle:DX (x*2^s) (y*2^s) L (z-1) (ql.set z.toNat d) (r-p)) (by omega:((z-1)+1).toNat<(z+1).toNat))))))))))))))) (fun(h33: ¬(0≤z))=>I (by omega:L=ql.length) (have hF:=hD.fin hp0 (by omega);I (hD.hu: ∀u∈ql,u<4294967296) (And.intro (hF.1:valL ql=x/y) (hF.2:r/2^s=x%y))))))) ((((limbs (x*2^s)).length) -((limbs (y*2^s)).length))+1) rfl)) (32-(bl (y/4294967296^((limbs y).length-1)))) rfl))))))))))⟩)
abbrev Pv:Ctr Tryz.prog:=FI.c q0E
abbrev q0G:FI:=⟨148,[.mag,.mag],[(.n 137438953536),(.n 137438953536)],fun _=>[],fun b z=>(fun(x:Nat)(y:Nat)=> .c (.one (.dt .mag (.n (max (b0 b).nb (b1 b).nb)) (Nat.gcd x y)))) z.1 z.2⟩
theorem q0H:q0G.OK Tryz.prog:=mkF hmix 51 Tryz.func148 rfl rfl (by decide) [(147,.c H3),(149,.c Pv),(150,.c Ig),(221,.c K9)] (fun(x:Nat)(y:Nat) b hx hp=>qa (L5 (Bnds.h2 hx).1.mag (Bnds.h2 hx).2.mag) rfl) (fun(x:Nat)(y:Nat) hx hp=>by
 have hx0:lt2 x 137438953536:=hx.1
 have hl0:(limbs x).length≤4294967299:=qg (Nat.le_of_lt hx0)
 have hx1:lt2 y 137438953536:=hx.2
 have hl1:(limbs y).length≤4294967299:=qg (Nat.le_of_lt hx1)
 refine⟨.loop [.s 0 .mag (.n 137438953536),.s 1 .mag (.n 137438953536)] (fun((a,b):Nat×Nat)=>Nat.gcd a b=Nat.gcd x y) (fun((a,b):Nat×Nat)=>b) (fun((a,b):Nat×Nat)=> .cond (.cond (.cond (.loop [.s 5 (.nat .u64) (.n 18446744073709551615),.s 7 (.nat .u64) (.n 18446744073709551615)] (fun((u,v):Nat×Nat)=>Nat.gcd u v=Nat.gcd x y) (fun((u,v):Nat×Nat)=>v) (fun((u,v):Nat×Nat)=> .nil)) (.nil)) (.nil)) (.nil)),kcast (by kernel_rfl) (I (rfl:Nat.gcd x y=Nat.gcd x y) (fun(a:Nat)(b:Nat)(hb1:HB [.s 0 .mag (.n 137438953536),.s 1 .mag (.n 137438953536)] (a,b))(hC:Nat.gcd a b=Nat.gcd x y)=>Sp (0<(limbs b).length) (fun h2=>Sp (xk a=true) (fun h3=>Sp (xk b=true) (fun h4=>I (by rw[(xw_y (x:=a) (of_decide_eq_true (by assumption))).1,(xw_y (x:=b) (of_decide_eq_true (by assumption))).1];exact hC:Nat.gcd (xw a) (xw b)=Nat.gcd x y) (fun(u:Nat)(v:Nat)(hb5:HB [.s 5 (.nat .u64) (.n 18446744073709551615),.s 7 (.nat .u64) (.n 18446744073709551615)] (u,v))(hK:Nat.gcd u v=Nat.gcd x y)=>have hv8:=(show u≤18446744073709551615 from hb5.1);have hv9:=(show v≤18446744073709551615 from hb5.2);Sp (v≠0) (fun h6=>I (?_:0<v) (And.intro ((vI u v).trans hK:Nat.gcd v (u%v)=Nat.gcd x y) (Nat.mod_lt _ (by omega):u%v<v))) (fun h7=>(by rw[show v=0 by omega,Nat.gcd_zero_right]at hK;exact hK:u=Nat.gcd x y)))) (fun h10=>have hb0:=(show 0<b from Nat.pos_of_ne_zero (fun e=>by have:=nl0.2 e;omega));I (hb0:0<b) (And.intro ((vI a b).trans hC:Nat.gcd b (a%b)=Nat.gcd x y) (Nat.mod_lt _ hb0:a%b<b)))) (fun h11=>have hb0:=(show 0<b from Nat.pos_of_ne_zero (fun e=>by have:=nl0.2 e;omega));I (hb0:0<b) (And.intro ((vI a b).trans hC:Nat.gcd b (a%b)=Nat.gcd x y) (Nat.mod_lt _ hb0:a%b<b)))) (fun h12=>(by have e:=nl0.1 (show(limbs b).length=0 by omega);rw[e,Nat.gcd_zero_right]at hC;exact hC:a=Nat.gcd x y))))⟩<;>omega)
abbrev q0F:Ctr Tryz.prog:=FI.c q0H
abbrev Xz:FI:=⟨16,[.rat],[(.n 68719476736)],fun _=>[],fun b z=>(fun(x:Rat)=> .c (.one (.dt (.int .i64) (.n 1) (sgnQ x)))) z⟩
theorem XA:Xz.OK Tryz.prog:=mkF hmix 9 Tryz.func16 rfl rfl (by decide) [] (fun(x:Rat) b hx hp=>qa (Jx x) rfl) (fun(x:Rat) hx hp=>by
 refine⟨.nil,kcast (by kernel_rfl) (Sp ((limbs x.num.natAbs).length=0) (fun h1=>(by rw[sgnQ,if_pos (nl0.1 (by assumption))]:0=sgnQ x)) (fun h2=>Sp (x.num<0) (fun h3=>(by rw[sgnQ,if_neg (mt nl0.2 (by assumption)),if_pos (by assumption)]:(-1)=sgnQ x)) (fun h4=>(by rw[sgnQ,if_neg (mt nl0.2 (by assumption)),if_neg (by assumption)]:1=sgnQ x))))⟩)
abbrev H4:Ctr Tryz.prog:=FI.c XA
abbrev q0S:FI:=⟨79,[.rat],[(.n 1099511627776)],fun _=>[],fun b z=>(fun(x:Rat)=> .c (.one (.dt .mag (.n ((b0 b).nb+1)) (x.den)))) z⟩
theorem q0T:q0S.OK Tryz.prog:=mkF hmix 10 Tryz.func79 rfl rfl (by decide) [] (fun(x:Rat) b hx hp=>qa (Bx (Bnds.h1 hx).rat.2) rfl) (fun(x:Rat) hx hp=>by
 have hx0:Bnd .rat (.n 1099511627776) x:=hx
 refine⟨.cond (.h 2 0 (.mk (.im (.nat .u32) (.n 4294967295))) (.h 2 1 (.mag 1 1) (.nil))) (.h 3 1 (.mag x.den 1099511627777) (.nil)),kcast (by kernel_rfl) (Sp ((denL x.den).length=0) (fun h1=>I (AL.symm:[1]=limbs 1) (I (Gv rfl:lt2 1 1) (((Am x.den_nz (by omega)).symm:1=x.den)))) (fun h2=>I (BZ (by omega):denL x.den=limbs x.den) (I (Bx hx0.2:lt2 x.den 1099511627777) ((Eq.refl x.den)))))⟩)
abbrev G9:Ctr Tryz.prog:=FI.c q0T
abbrev XB:FI:=⟨81,[(.int .i64)],[(.n 4611686018427387904)],fun _=>[],fun b z=>(fun(v:Int)=> .tup [(.one (.dt .mag (.n (Nat.log2 (b0 b).nb+1)) (v.natAbs))),.one (.dt .bool .u (decide (v<0)))]) z⟩
theorem XC:XB.OK Tryz.prog:=mkF hmix 15 Tryz.func81 rfl rfl (by decide) [(150,.c Ig)] (fun(v:Int) b hx hp=>qu (qa (zo (Bnds.h1 hx).int) rfl) (qu (qa trivial rfl) jh)) (fun(v:Int) hx hp=>by
 have hx0:Int.natAbs v≤4611686018427387904:=hx
 refine⟨.cond (.h 2 3 (.i (.n (v.natAbs-1) 4611686018427387904)) (.nil)) (.h 3 1 (.i (.n v.natAbs 4611686018427387904)) (.nil)),kcast (by kernel_rfl) (Sp (v<0) (fun h1=>I (by rw[show-(v+1)=((v.natAbs-1:Nat):Int) by omega];exact zk (by omega):IntKind.wrap .u64 (-(v+1))=((v.natAbs-1:Nat):Int)) (I (?_:v.natAbs-1≤4611686018427387904) (And.intro (?_:(v.natAbs-1)+1=v.natAbs) ((decide_eq_true (by assumption)).symm:true=decide (v<0))))) (fun h2=>I (by rw[show v=((v.natAbs:Nat):Int) by omega];exact zk (by omega):IntKind.wrap .u64 v=((v.natAbs:Nat):Int)) (I (?_:v.natAbs≤4611686018427387904) (And.intro (Eq.refl v.natAbs) ((decide_eq_false (by assumption)).symm:false=decide (v<0))))))⟩<;>omega)
abbrev LG:Ctr Tryz.prog:=FI.c XC
abbrev PA:FI:=⟨77,[.bool,.mag,.mag],[.u,(.n 137438953536),(.n 137438953536)],fun z=>(fun(neg:Bool)(n:Nat)(d:Nat)=>[0<d]) z.1 z.2.1 z.2.2,fun b z=>(fun(neg:Bool)(n:Nat)(d:Nat)=> .c (.agg [.dt .rat (.n (max (b1 b).nb (b2 b).nb)) (sgQ neg n d)])) z.1 z.2.1 z.2.2⟩
theorem PB:PA.OK Tryz.prog:=mkF hmix 55 Tryz.func77 rfl rfl (by decide) [(147,.c H3),(148,.c q0F),(149,.c Pv)] (fun(neg:Bool)(n:Nat)(d:Nat) b hx hp=>jb (EQ (q9 (Nat.le_max_left _ _) (Bnds.h3 hx).2.1.mag) (q9 (Nat.le_max_right _ _) (Bnds.h3 hx).2.2.mag))) (fun(neg:Bool)(n:Nat)(d:Nat) hx hp=>by
 have hx1:lt2 n 137438953536:=hx.2.1
 have hl1:(limbs n).length≤4294967299:=qg (Nat.le_of_lt hx1)
 have hx2:lt2 d 137438953536:=hx.2.2
 have hl2:(limbs d).length≤4294967299:=qg (Nat.le_of_lt hx2)
 have hp0:0<d:=hp _ (List.mem_cons_self)
 refine⟨.cond (.nil) ((fun(g:Nat)=> .cond (.cond (.cond (.h 10 3 (.rat (sgQ neg n d) 137438953536) (.nil)) (.h 10 3 (.rat (sgQ neg n d) 137438953536) (.nil))) (.h 10 3 (.rat (sgQ neg n d) 137438953536) (.nil))) (.cond (.cond (.cond (.h 10 3 (.rat (sgQ neg n d) 137438953536) (.nil)) (.h 10 3 (.rat (sgQ neg n d) 137438953536) (.nil))) (.h 10 3 (.rat (sgQ neg n d) 137438953536) (.nil))) (.cond (.cond (.h 10 3 (.rat (sgQ neg n d) 137438953536) (.nil)) (.h 10 3 (.rat (sgQ neg n d) 137438953536) (.nil))) (.h 10 3 (.rat (sgQ neg n d) 137438953536) (.nil))))) (Nat.gcd n d)),kcast (by kernel_rfl) (And.intro (fun(h1:(limbs n).length=0)=>(by rw[nl0.1 (show(limbs n).length=0 by assumption),Cq]:0=sgQ neg n d)) (fun(h2: ¬((limbs n).length=0))=>have hn0:=(show 0<n from Nat.pos_of_ne_zero (mt nl0.2 (by omega)));have hd0:=hp0;(fun(g:Nat)(hg:g=Nat.gcd n d)=>have hg0:=(show 0<g from hg▸Nat.gcd_pos_of_pos_right _ hd0);have hgl:=(Nat.pos_of_ne_zero (mt nl0.1 (show¬g=0 by omega)):0<(limbs g).length);And.intro (fun(h3:(limbs g).length≠1)=>I (by omega:0<g) (I (by omega:0<g) (And.intro (fun(h4:(limbs (d/g)).length=1)=>I (by omega:0<(limbs (d/g)).length) (And.intro (fun(h5:(limbs (d/g)).getD 0 0=1)=>I ((j4 hn0 hd0).symm:neg=decide ((sgQ neg n d).num<0)) (I (by rw[qO hd0,←hg]<;>first|rfl|(rw[hg1,Nat.div_one]<;>rfl):n/g=(sgQ neg n d).num.natAbs) (I (by rw[(qG hd0).2,←hg];first|exact v5 (by omega) (by omega)|(rw[hg1,Nat.div_one];exact v5 (by omega) (by omega)):(sgQ neg n d).den=1) (I ((qt (p:=137438953536) (q9 (by decide) hx1) (qx (q9 (by decide) hx2)) hd0).1:lt2 (sgQ neg n d).num.natAbs 137438953536) (I ((qt (p:=137438953536) (q9 (by decide) hx1) (qx (q9 (by decide) hx2)) hd0).2:le2 (sgQ neg n d).den 137438953536) ((Eq.refl (sgQ neg n d)))))))) (fun(h6: ¬((limbs (d/g)).getD 0 0=1))=>I ((j4 hn0 hd0).symm:neg=decide ((sgQ neg n d).num<0)) (I (by rw[qO hd0,←hg]<;>first|rfl|(rw[hg1,Nat.div_one]<;>rfl):n/g=(sgQ neg n d).num.natAbs) (I (jI (by rw[(qG hd0).2,←hg]<;>first|rfl|(rw[hg1,Nat.div_one]<;>rfl)) (by omega):limbs (d/g)=denL (sgQ neg n d).den) (I ((qt (p:=137438953536) (q9 (by decide) hx1) (qx (q9 (by decide) hx2)) hd0).1:lt2 (sgQ neg n d).num.natAbs 137438953536) (I ((qt (p:=137438953536) (q9 (by decide) hx1) (qx (q9 (by decide) hx2)) hd0).2:le2 (sgQ neg n d).den 137438953536) ((Eq.refl (sgQ neg n d)))))))))) (fun(h7: ¬((limbs (d/g)).length=1))=>I ((j4 hn0 hd0).symm:neg=decide ((sgQ neg n d).num<0)) (I (by rw[qO hd0,←hg]<;>first|rfl|(rw[hg1,Nat.div_one]<;>rfl):n/g=(sgQ neg n d).num.natAbs) (I (jI (by rw[(qG hd0).2,←hg]<;>first|rfl|(rw[hg1,Nat.div_one]<;>rfl)) (by omega):limbs (d/g)=denL (sgQ neg n d).den) (I ((qt (p:=137438953536) (q9 (by decide) hx1) (qx (q9 (by decide) hx2)) hd0).1:lt2 (sgQ neg n d).num.natAbs 137438953536) (I ((qt (p:=137438953536) (q9 (by decide) hx1) (qx (q9 (by decide) hx2)) hd0).2:le2 (sgQ neg n d).den 137438953536) ((Eq.refl (sgQ neg n d))))))))))) (fun(h8: ¬((limbs g).length≠1))=>I (by omega:0<(limbs g).length) (And.intro (fun(h9:(limbs g).getD 0 0≠1)=>I (by omega:0<g) (I (by omega:0<g) (And.intro (fun(h10:(limbs (d/g)).length=1)=>I (by omega:0<(limbs (d/g)).length) (And.intro (fun(h11:(limbs (d/g)).getD 0 0=1)=>I ((j4 hn0 hd0).symm:neg=decide ((sgQ neg n d).num<0)) (I (by rw[qO hd0,←hg]<;>first|rfl|(rw[hg1,Nat.div_one]<;>rfl):n/g=(sgQ neg n d).num.natAbs) (I (by rw[(qG hd0).2,←hg];first|exact v5 (by omega) (by omega)|(rw[hg1,Nat.div_one];exact v5 (by omega) (by omega)):(sgQ neg n d).den=1) (I ((qt (p:=137438953536) (q9 (by decide) hx1) (qx (q9 (by decide) hx2)) hd0).1:lt2 (sgQ neg n d).num.natAbs 137438953536) (I ((qt (p:=137438953536) (q9 (by decide) hx1) (qx (q9 (by decide) hx2)) hd0).2:le2 (sgQ neg n d).den 137438953536) ((Eq.refl (sgQ neg n d)))))))) (fun(h12: ¬((limbs (d/g)).getD 0 0=1))=>I ((j4 hn0 hd0).symm:neg=decide ((sgQ neg n d).num<0)) (I (by rw[qO hd0,←hg]<;>first|rfl|(rw[hg1,Nat.div_one]<;>rfl):n/g=(sgQ neg n d).num.natAbs) (I (jI (by rw[(qG hd0).2,←hg]<;>first|rfl|(rw[hg1,Nat.div_one]<;>rfl)) (by omega):limbs (d/g)=denL (sgQ neg n d).den) (I ((qt (p:=137438953536) (q9 (by decide) hx1) (qx (q9 (by decide) hx2)) hd0).1:lt2 (sgQ neg n d).num.natAbs 137438953536) (I ((qt (p:=137438953536) (q9 (by decide) hx1) (qx (q9 (by decide) hx2)) hd0).2:le2 (sgQ neg n d).den 137438953536) ((Eq.refl (sgQ neg n d)))))))))) (fun(h13: ¬((limbs (d/g)).length=1))=>I ((j4 hn0 hd0).symm:neg=decide ((sgQ neg n d).num<0)) (I (by rw[qO hd0,←hg]<;>first|rfl|(rw[hg1,Nat.div_one]<;>rfl):n/g=(sgQ neg n d).num.natAbs) (I (jI (by rw[(qG hd0).2,←hg]<;>first|rfl|(rw[hg1,Nat.div_one]<;>rfl)) (by omega):limbs (d/g)=denL (sgQ neg n d).den) (I ((qt (p:=137438953536) (q9 (by decide) hx1) (qx (q9 (by decide) hx2)) hd0).1:lt2 (sgQ neg n d).num.natAbs 137438953536) (I ((qt (p:=137438953536) (q9 (by decide) hx1) (qx (q9 (by decide) hx2)) hd0).2:le2 (sgQ neg n d).den 137438953536) ((Eq.refl (sgQ neg n d))))))))))) (fun(h14: ¬((limbs g).getD 0 0≠1))=>have hg1:=(v5 (by omega) (by omega):g=1);And.intro (fun(h15:(limbs d).length=1)=>I (by omega:0<(limbs d).length) (And.intro (fun(h16:(limbs d).getD 0 0=1)=>I ((j4 hn0 hd0).symm:neg=decide ((sgQ neg n d).num<0)) (I (by rw[qO hd0,←hg]<;>first|rfl|(rw[hg1,Nat.div_one]<;>rfl):n=(sgQ neg n d).num.natAbs) (I (by rw[(qG hd0).2,←hg];first|exact v5 (by omega) (by omega)|(rw[hg1,Nat.div_one];exact v5 (by omega) (by omega)):(sgQ neg n d).den=1) (I ((qt (p:=137438953536) (q9 (by decide) hx1) (qx (q9 (by decide) hx2)) hd0).1:lt2 (sgQ neg n d).num.natAbs 137438953536) (I ((qt (p:=137438953536) (q9 (by decide) hx1) (qx (q9 (by decide) hx2)) hd0).2:le2 (sgQ neg n d).den 137438953536) ((Eq.refl (sgQ neg n d)))))))) (fun(h17: ¬((limbs d).getD 0 0=1))=>I ((j4 hn0 hd0).symm:neg=decide ((sgQ neg n d).num<0)) (I (by rw[qO hd0,←hg]<;>first|rfl|(rw[hg1,Nat.div_one]<;>rfl):n=(sgQ neg n d).num.natAbs) (I (jI (by rw[(qG hd0).2,←hg]<;>first|rfl|(rw[hg1,Nat.div_one]<;>rfl)) (by omega):limbs d=denL (sgQ neg n d).den) (I ((qt (p:=137438953536) (q9 (by decide) hx1) (qx (q9 (by decide) hx2)) hd0).1:lt2 (sgQ neg n d).num.natAbs 137438953536) (I ((qt (p:=137438953536) (q9 (by decide) hx1) (qx (q9 (by decide) hx2)) hd0).2:le2 (sgQ neg n d).den 137438953536) ((Eq.refl (sgQ neg n d)))))))))) (fun(h18: ¬((limbs d).length=1))=>I ((j4 hn0 hd0).symm:neg=decide ((sgQ neg n d).num<0)) (I (by rw[qO hd0,←hg]<;>first|rfl|(rw[hg1,Nat.div_one]<;>rfl):n=(sgQ neg n d).num.natAbs) (I (jI (by rw[(qG hd0).2,←hg]<;>first|rfl|(rw[hg1,Nat.div_one]<;>rfl)) (by omega):limbs d=denL (sgQ neg n d).den) (I ((qt (p:=137438953536) (q9 (by decide) hx1) (qx (q9 (by decide) hx2)) hd0).1:lt2 (sgQ neg n d).num.natAbs 137438953536) (I ((qt (p:=137438953536) (q9 (by decide) hx1) (qx (q9 (by decide) hx2)) hd0).2:le2 (sgQ neg n d).den 137438953536) ((Eq.refl (sgQ neg n d)))))))))))) (Nat.gcd n d) rfl))⟩)
abbrev B6:Ctr Tryz.prog:=FI.c PB
abbrev q0U:FI:=⟨29,[(.int .i64)],[(.n 4611686018427387904)],fun _=>[],fun b z=>(fun(v:Int)=> .c (.agg [.dt .rat (.n (Nat.log2 (b0 b).nb+1)) ((v:Rat))])) z⟩
theorem q0V:q0U.OK Tryz.prog:=mkF hmix 13 Tryz.func29 rfl rfl (by decide) [(81,.c LG)] (fun(v:Int) b hx hp=>jb (A5 (Bnds.h1 hx).int)) (fun(v:Int) hx hp=>by
 have hx0:Int.natAbs v≤4611686018427387904:=hx
 refine⟨.h 2 2 (.rat (v:Rat) 64) (.nil),kcast (by kernel_rfl) (I (by rw[A6]:decide (v<0)=decide ((v:Rat).num<0)) (I (by rw[A6]:v.natAbs=(v:Rat).num.natAbs) (I (DM v:(v:Rat).den=1) (I (by rw[A6];exact Nat.lt_of_le_of_lt hx0 (by decide):lt2 (v:Rat).num.natAbs 64) (I (by rw[DM];exact Nat.one_le_two_pow:le2 (v:Rat).den 64) ((Eq.refl (v:Rat))))))))⟩)
abbrev Ga:Ctr Tryz.prog:=FI.c q0V
abbrev Xv:FI:=⟨146,[(.int .i64),(.int .i64)],[(.n 4611686018427387904),(.n 4611686018427387904)],fun _=>[],fun b z=>(fun(u:Int)(v:Int)=> .tup [.agg [.dt .rat (.n (max (Nat.log2 (b0 b).nb+1) (Nat.log2 (b1 b).nb+1))) ((u:Rat)/(v:Rat))],.one (.dt (.int .i64) (.n 3) (mkC' v))]) z.1 z.2⟩
theorem Xw:Xv.OK Tryz.prog:=mkF hmix 29 Tryz.func146 rfl rfl (by decide) [(77,.c B6),(81,.c LG)] (fun(u:Int)(v:Int) b hx hp=>qu (jb (Cg (Bnds.h2 hx).1.int (Bnds.h2 hx).2.int)) (qu (qa (q1F v) rfl) jh)) (fun(u:Int)(v:Int) hx hp=>by
 have hx0:Int.natAbs u≤4611686018427387904:=hx.1
 have hx1:Int.natAbs v≤4611686018427387904:=hx.2
 refine⟨.nil,kcast (by kernel_rfl) (Sp (v=0) (fun h1=>And.intro (by rw[show v=0 by assumption];simp[Rat.div_def]:0=((u:Int):Rat)/((v:Int):Rat)) ((if_pos (by assumption)).symm:3=mkC' v)) (fun h2=>I (?_:0<v.natAbs) (And.intro (L7 u v:sgQ (decide ((decide (u<0))≠(decide (v<0)))) u.natAbs v.natAbs=((u:Int):Rat)/((v:Int):Rat)) ((if_neg (by assumption)).symm:0=mkC' v))))⟩<;>omega)
abbrev Xu:Ctr Tryz.prog:=FI.c Xw
abbrev Xs:FI:=⟨75,[(.int .i64),(.int .i64)],[(.n 4611686018427387904),(.n 4611686018427387904)],fun _=>[],fun b z=>(fun(u:Int)(v:Int)=> .c (.agg [.dt .rat (.n (max (Nat.log2 (b0 b).nb+1) (Nat.log2 (b1 b).nb+1))) ((u:Rat)/(v:Rat))])) z.1 z.2⟩
theorem Xt:Xs.OK Tryz.prog:=mkF hmix 14 Tryz.func75 rfl rfl (by decide) [(146,.c Xu)] (fun(u:Int)(v:Int) b hx hp=>jb (Cg (Bnds.h2 hx).1.int (Bnds.h2 hx).2.int)) (fun(u:Int)(v:Int) hx hp=>by
 refine⟨.nil,kcast (by kernel_rfl) ((Eq.refl (((u:Int):Rat)/((v:Int):Rat))))⟩)
abbrev Xr:Ctr Tryz.prog:=FI.c Xt
abbrev Xx:FI:=⟨30,[.rat,.rat],[(.n 68719476736),(.n 68719476736)],fun _=>[],fun b z=>(fun(x:Rat)(y:Rat)=> .c (.one (.dt .bool .u (decide (x=y))))) z.1 z.2⟩
theorem Xy:Xx.OK Tryz.prog:=mkF hmix 26 Tryz.func30 rfl rfl (by decide) [(82,.c Dw)] (fun(x:Rat)(y:Rat) b hx hp=>qa trivial rfl) (fun(x:Rat)(y:Rat) hx hp=>by
 have hx0:Bnd .rat (.n 68719476736) x:=hx.1
 have hx1:Bnd .rat (.n 68719476736) y:=hx.2
 refine⟨.cond (.cond (.h 1 15 (.mag (dm x.den) 68719476737) (.h 1 17 (.mag (dm y.den) 68719476737) (.nil))) (.nil)) (.nil),kcast (by kernel_rfl) (Sp ((decide (x.num<0))=(decide (y.num<0))) (fun h1=>Sp (cmpN x.num.natAbs y.num.natAbs=0) (fun h2=>I (KI _:denL x.den=limbs (dm x.den)) (I (Nm hx0.2:lt2 (dm x.den) 68719476737) (I (KI _:denL y.den=limbs (dm y.den)) (I (Nm hx1.2:lt2 (dm y.den) 68719476737) ((q13 (by assumption) (by assumption):decide (cmpN (dm x.den) (dm y.den)=0)=decide (x=y))))))) (fun h3=>(ysame (by first|exact .inl (by assumption)|exact .inr (.inl (by assumption))):false=decide (x=y)))) (fun h4=>(ysame (by first|exact .inl (by assumption)|exact .inr (.inl (by assumption))):false=decide (x=y))))⟩)
abbrev LF:Ctr Tryz.prog:=FI.c Xy
abbrev q0Y:FI:=⟨80,[.rat],[(.n 68719476736)],fun _=>[],fun b z=>(fun(x:Rat)=> .c (.agg [.dt .rat (.n ((b0 b).nb)) (-x)])) z⟩
theorem q0Z:q0Y.OK Tryz.prog:=mkF hmix 14 Tryz.func80 rfl rfl (by decide) [] (fun(x:Rat) b hx hp=>jb (BA (Bnds.h1 hx))) (fun(x:Rat) hx hp=>by
 refine⟨.cond (.h 2 0 (.rat (-x) 68719476736) (.nil)) (.h 2 0 (.rat (-x) 68719476736) (.nil)),kcast (by kernel_rfl) (Sp (¬(x.num<0)) (fun h1=>I (?_:decide (0<(limbs x.num.natAbs).length)=decide ((-x).num<0)) (I ((Gz x).symm:x.num.natAbs=(-x).num.natAbs) (I (by rw[Rat.neg_den]:denL x.den=denL (-x).den) (I ((BA hx).1:lt2 (-x).num.natAbs 68719476736) (I ((BA hx).2:le2 (-x).den 68719476736) ((Eq.refl (-x)))))))) (fun h2=>I (?_:false=decide ((-x).num<0)) (I ((Gz x).symm:x.num.natAbs=(-x).num.natAbs) (I (by rw[Rat.neg_den]:denL x.den=denL (-x).den) (I ((BA hx).1:lt2 (-x).num.natAbs 68719476736) (I ((BA hx).2:le2 (-x).den 68719476736) ((Eq.refl (-x)))))))))⟩<;>first|(first|exact Z7 (by assumption)|exact Z8 (by omega)))
abbrev Pz:Ctr Tryz.prog:=FI.c q0Z
abbrev q0N:FI:=⟨53,[.rat,.rat],[(.n 68719476736),(.n 68719476736)],fun _=>[],fun b z=>(fun(x:Rat)(y:Rat)=> .c (.agg [.dt .rat (.n ((b0 b).nb+(b1 b).nb+1)) (x+y)])) z.1 z.2⟩
theorem q0O:q0N.OK Tryz.prog:=mkF hmix 75 Tryz.func53 rfl rfl (by decide) [(77,.c B6),(78,.c Dx),(79,.c G9),(82,.c Dw),(119,.c q0y),(120,.c q0K)] (fun(x:Rat)(y:Rat) b hx hp=>jb (Ep (Bnds.h2 hx).1 (Bnds.h2 hx).2)) (fun(x:Rat)(y:Rat) hx hp=>by
 refine⟨.nil,kcast (by kernel_rfl) (Sp ((limbs x.num.natAbs).length=0) (fun h1=>(by rw[zL (x:=x) (nl0.1 (by assumption)),Rat.zero_add]:y=x+y)) (fun h2=>Sp ((limbs y.num.natAbs).length=0) (fun h3=>(by rw[zL (x:=y) (nl0.1 (by assumption)),Rat.add_zero]:x=x+y)) (fun h4=>have hqx:=Nat.pos_of_ne_zero x.den_nz;have hqy:=Nat.pos_of_ne_zero y.den_nz;have hqp:=Nat.mul_pos hqx hqy;Sp ((decide (x.num<0))=(decide (y.num<0))) (fun h5=>I (hqp:0<x.den*y.den) ((by rw[show x+y=x+yQ (decide (y.num<0)) y by rw[BO]];first|(have hs:decide (x.num<0)=decide (y.num<0):=(by assumption);rw[hs];exact Ai hs)|exact Ag (by assumption) (Nat.le_of_not_lt (mt jf.2 (by assumption)))|exact Ah (by assumption) (by have h:=jf.1 (show cmpN (x.num.natAbs*y.den) (y.num.natAbs*x.den)<0 by assumption);omega):sgQ (decide (x.num<0)) ((x.num.natAbs*y.den)+(y.num.natAbs*x.den)) (x.den*y.den)=x+y))) (fun h6=>Sp (cmpN (x.num.natAbs*y.den) (y.num.natAbs*x.den)<0) (fun h7=>I (hqp:0<x.den*y.den) ((by rw[show x+y=x+yQ (decide (y.num<0)) y by rw[BO]];first|(have hs:decide (x.num<0)=decide (y.num<0):=(by assumption);rw[hs];exact Ai hs)|exact Ag (by assumption) (Nat.le_of_not_lt (mt jf.2 (by assumption)))|exact Ah (by assumption) (by have h:=jf.1 (show cmpN (x.num.natAbs*y.den) (y.num.natAbs*x.den)<0 by assumption);omega):sgQ (decide (y.num<0)) ((y.num.natAbs*x.den) -(x.num.natAbs*y.den)) (x.den*y.den)=x+y))) (fun h8=>I (hqp:0<x.den*y.den) ((by rw[show x+y=x+yQ (decide (y.num<0)) y by rw[BO]];first|(have hs:decide (x.num<0)=decide (y.num<0):=(by assumption);rw[hs];exact Ai hs)|exact Ag (by assumption) (Nat.le_of_not_lt (mt jf.2 (by assumption)))|exact Ah (by assumption) (by have h:=jf.1 (show cmpN (x.num.natAbs*y.den) (y.num.natAbs*x.den)<0 by assumption);omega):sgQ (decide (x.num<0)) ((x.num.natAbs*y.den) -(y.num.natAbs*x.den)) (x.den*y.den)=x+y)))))))⟩)
abbrev Ka:Ctr Tryz.prog:=FI.c q0O
abbrev q14:FI:=⟨28,[.rat,.rat],[(.n 68719476736),(.n 68719476736)],fun _=>[],fun b z=>(fun(x:Rat)(y:Rat)=> .c (.agg [.dt .rat (.n ((b0 b).nb+(b1 b).nb+1)) (x-y)])) z.1 z.2⟩
theorem q15:q14.OK Tryz.prog:=mkF hmix 9 Tryz.func28 rfl rfl (by decide) [(53,.c Ka),(80,.c Pz)] (fun(x:Rat)(y:Rat) b hx hp=>jb (ER (Bnds.h2 hx).1 (Bnds.h2 hx).2)) (fun(x:Rat)(y:Rat) hx hp=>by
 refine⟨.nil,kcast (by kernel_rfl) ((by rw[Rat.sub_eq_add_neg]:x+(-y)=x-y))⟩)
abbrev Dy:Ctr Tryz.prog:=FI.c q15
abbrev q0W:FI:=⟨27,[.rat,.rat],[(.n 68719476736),(.n 68719476736)],fun _=>[],fun b z=>(fun(x:Rat)(y:Rat)=> .c (.agg [.dt .rat (.n ((b0 b).nb+(b1 b).nb)) (x*y)])) z.1 z.2⟩
theorem q0X:q0W.OK Tryz.prog:=mkF hmix 21 Tryz.func27 rfl rfl (by decide) [(77,.c B6),(78,.c Dx),(79,.c G9)] (fun(x:Rat)(y:Rat) b hx hp=>jb (Be (Bnds.h2 hx).1 (Bnds.h2 hx).2)) (fun(x:Rat)(y:Rat) hx hp=>by
 have hqp:=Nat.mul_pos (Nat.pos_of_ne_zero x.den_nz) (Nat.pos_of_ne_zero y.den_nz)
 refine⟨.nil,kcast (by kernel_rfl) (have hqx:=Nat.pos_of_ne_zero x.den_nz;have hqy:=Nat.pos_of_ne_zero y.den_nz;have hqp:=Nat.mul_pos hqx hqy;I (hqp:0<x.den*y.den) ((E7 x y:sgQ (decide ((decide (x.num<0))≠(decide (y.num<0)))) (x.num.natAbs*y.num.natAbs) (x.den*y.den)=x*y)))⟩)
abbrev Kb:Ctr Tryz.prog:=FI.c q0X
abbrev q11:FI:=⟨86,[.rat,.rat],[(.n 68719476736),(.n 68719476736)],fun _=>[],fun b z=>(fun(x:Rat)(y:Rat)=> .tup [.agg [.dt .rat (.n ((b0 b).nb+(b1 b).nb)) (x/y)],.one (.dt (.int .i64) (.n 3) (quoC y))]) z.1 z.2⟩
theorem q12:q11.OK Tryz.prog:=mkF hmix 27 Tryz.func86 rfl rfl (by decide) [(77,.c B6),(78,.c Dx),(79,.c G9)] (fun(x:Rat)(y:Rat) b hx hp=>qu (jb (GJ (Bnds.h2 hx).1 (Bnds.h2 hx).2)) (qu (qa (OF y) rfl) jh)) (fun(x:Rat)(y:Rat) hx hp=>by
 refine⟨.nil,kcast (by kernel_rfl) (Sp ((limbs y.num.natAbs).length=0) (fun h1=>And.intro (SO (nl0.1 (by assumption)):0=x/y) ((if_pos (nl0.1 (by assumption))).symm:3=quoC y)) (fun h2=>have hy0:=(mt nl0.2 (by assumption): ¬y.num.natAbs=0);I (Nat.mul_pos (Nat.pos_of_ne_zero x.den_nz) (Nat.pos_of_ne_zero hy0):0<x.den*y.num.natAbs) (And.intro (Da hy0:sgQ (decide ((decide (x.num<0))≠(decide (y.num<0)))) (x.num.natAbs*y.den) (x.den*y.num.natAbs)=x/y) ((if_neg hy0).symm:0=quoC y))))⟩)
abbrev q10:Ctr Tryz.prog:=FI.c q12
abbrev q0Q:FI:=⟨32,[.rat,.rat],[(.n 68719476736),(.n 68719476736)],fun _=>[],fun b z=>(fun(x:Rat)(y:Rat)=> .c (.one (.dt (.int .i64) (.n 1) (cmpQ x y)))) z.1 z.2⟩
theorem q0R:q0Q.OK Tryz.prog:=mkF hmix 34 Tryz.func32 rfl rfl (by decide) [(16,.c H4),(78,.c Dx),(79,.c G9),(82,.c Dw)] (fun(x:Rat)(y:Rat) b hx hp=>qa (wg x y) rfl) (fun(x:Rat)(y:Rat) hx hp=>by
 refine⟨.nil,kcast (by kernel_rfl) (Sp (sgnQ x≠sgnQ y) (fun h1=>Sp (sgnQ x<sgnQ y) (fun h2=>(?_:(-1)=cmpQ x y)) (fun h3=>(?_:1=cmpQ x y))) (fun h4=>have hs:=(show sgnQ x=sgnQ y by omega);Sp (x.num<0) (fun h5=>(?_: -(cmpN (x.num.natAbs*y.den) (y.num.natAbs*x.den))=cmpQ x y)) (fun h6=>(?_:cmpN (x.num.natAbs*y.den) (y.num.natAbs*x.den)=cmpQ x y))))⟩<;>first|(first|exact((DC (by assumption)).1 (by assumption)).symm|exact((DC (by assumption)).2 (by assumption)).symm|exact(KE hs (by assumption)).symm|exact(KF hs (by assumption)).symm))
abbrev q0P:Ctr Tryz.prog:=FI.c q0R
abbrev RK:FI:=⟨210,[(.pr .rat (.pr .rat .rat)),(.pr .rat (.pr .rat .rat))],[(.p (.n 4294967296) (.p (.n 4294967296) (.n 4294967296))),(.p (.n 4294967296) (.p (.n 4294967296) (.n 4294967296)))],fun _=>[],fun b z=>(fun(p:Rat×Rat×Rat)(q:Rat×Rat×Rat)=> .c (.one (.dt .bool .u (decide (p=q))))) z.1 z.2⟩
theorem RL:RK.OK Tryz.prog:=mkF hmix 18 Tryz.func210 rfl rfl (by decide) [(260,.c W8)] (fun(p:Rat×Rat×Rat)(q:Rat×Rat×Rat) b hx hp=>qa trivial rfl) (fun(p:Rat×Rat×Rat)(q:Rat×Rat×Rat) hx hp=>by
 refine⟨.nil,kcast (by kernel_rfl) (Sp ((!(decide (p.1=q.1)))=true) (fun h1=>(G5 (.inl (nd h1)):false=decide (p=q))) (fun h2=>Sp ((!(decide (p.2.1=q.2.1)))=true) (fun h3=>(G5 (.inr (.inl (nd h3))):false=decide (p=q))) (fun h4=>Sp ((!(decide (p.2.2=q.2.2)))=true) (fun h5=>(G5 (.inr (.inr (nd h5))):false=decide (p=q))) (fun h6=>(q0r (nd' h2) (nd' h4) (nd' h6):true=decide (p=q))))))⟩)
abbrev Cu:Ctr Tryz.prog:=FI.c RL
abbrev RM:FI:=⟨55,[(.pr .rat (.pr .rat .rat)),(.pr .rat (.pr .rat .rat))],[(.p (.n 4294967296) (.p (.n 4294967296) (.n 4294967296))),(.p (.n 4294967296) (.p (.n 4294967296) (.n 4294967296)))],fun _=>[],fun b z=>(fun(p:Rat×Rat×Rat)(q:Rat×Rat×Rat)=> .c (.one (.dt .bool .u (decide (p=q))))) z.1 z.2⟩
theorem RN:RM.OK Tryz.prog:=mkF hmix 24 Tryz.func55 rfl rfl (by decide) [(30,.c LF)] (fun(p:Rat×Rat×Rat)(q:Rat×Rat×Rat) b hx hp=>qa trivial rfl) (fun(p:Rat×Rat×Rat)(q:Rat×Rat×Rat) hx hp=>by
 refine⟨.nil,kcast (by kernel_rfl) (Sp (decide (p.1=q.1)=true) (fun h1=>Sp (decide (p.2.1=q.2.1)=true) (fun h2=>(by rw[decide_eq_decide,wQ];exact⟨fun h=>⟨(yd h1),(yd h2),h⟩,fun h=>h.2.2⟩:decide (p.2.2=q.2.2)=decide (p=q))) (fun h3=>(G5 (.inr (.inl (yd' h3))):false=decide (p=q)))) (fun h4=>(G5 (.inl (yd' h4)):false=decide (p=q))))⟩)
abbrev Aw:Ctr Tryz.prog:=FI.c RN
abbrev RT:FI:=⟨135,[(.pr .rat (.pr .rat .rat))],[(.p (.n 4294967296) (.p (.n 4294967296) (.n 4294967296)))],fun _=>[],fun b z=>(fun(p:Rat×Rat×Rat)=> .c (.one (.dt .bool .u (decide (p=(0,0,0)))))) z⟩
theorem RU:RT.OK Tryz.prog:=mkF hmix 6 Tryz.func135 rfl rfl (by decide) [(210,.c Cu)] (fun(p:Rat×Rat×Rat) b hx hp=>qa trivial rfl) (fun(p:Rat×Rat×Rat) hx hp=>by
 refine⟨.nil,kcast (by kernel_rfl) ((Eq.refl (decide (p=(0,0,0)))))⟩)
abbrev EW:Ctr Tryz.prog:=FI.c RU
abbrev RV:FI:=⟨126,[(.pr .rat (.pr .rat .rat))],[(.p (.n 4294967296) (.p (.n 4294967296) (.n 4294967296)))],fun _=>[],fun b z=>(fun(p:Rat×Rat×Rat)=> .c (.one (.dt .bool .u (decide (p=(0,0,0)))))) z⟩
theorem RW:RV.OK Tryz.prog:=mkF hmix 6 Tryz.func126 rfl rfl (by decide) [(55,.c Aw)] (fun(p:Rat×Rat×Rat) b hx hp=>qa trivial rfl) (fun(p:Rat×Rat×Rat) hx hp=>by
 refine⟨.nil,kcast (by kernel_rfl) ((Eq.refl (decide (p=(0,0,0)))))⟩)
abbrev JO:Ctr Tryz.prog:=FI.c RW
abbrev Np:FI:=⟨204,[(.pr .rat (.pr .rat .rat)),(.pr .rat (.pr .rat .rat)),(.fn 139)],[(.p (.n 4294967296) (.p (.n 4294967296) (.n 4294967296))),(.p (.n 4294967296) (.p (.n 4294967296) (.n 4294967296))),.u],fun _=>[],fun b z=>(fun(p:Rat×Rat×Rat)(q:Rat×Rat×Rat)(u:Unit)=> .c (.agg [.dt tV3 (bV3 ((b0 b).mx+(b1 b).mx+1)) (addV p q)])) z.1 z.2.1 z.2.2⟩
theorem Nq:Np.OK Tryz.prog:=mkF hmix 24 Tryz.func204 rfl rfl (by decide) [(139,.c Lh)] (fun(p:Rat×Rat×Rat)(q:Rat×Rat×Rat)(u:Unit) b hx hp=>zu (F4 (Bnds.h3 hx).1 (Bnds.h3 hx).2.1)) (fun(p:Rat×Rat×Rat)(q:Rat×Rat×Rat)(u:Unit) hx hp=>by
 refine⟨.nil,kcast (by kernel_rfl) ((rfl:(p.1+q.1,p.2.1+q.2.1,p.2.2+q.2.2)=addV p q))⟩)
abbrev No:Ctr Tryz.prog:=FI.c Nq
abbrev Ns:FI:=⟨204,[(.pr .rat (.pr .rat .rat)),(.pr .rat (.pr .rat .rat)),(.fn 74)],[(.p (.n 4294967296) (.p (.n 4294967296) (.n 4294967296))),(.p (.n 4294967296) (.p (.n 4294967296) (.n 4294967296))),.u],fun _=>[],fun b z=>(fun(p:Rat×Rat×Rat)(q:Rat×Rat×Rat)(u:Unit)=> .c (.agg [.dt tV3 (bV3 ((b0 b).mx+(b1 b).mx)) (mulV p q)])) z.1 z.2.1 z.2.2⟩
theorem Nt:Ns.OK Tryz.prog:=mkF hmix 24 Tryz.func204 rfl rfl (by decide) [(74,.c FT)] (fun(p:Rat×Rat×Rat)(q:Rat×Rat×Rat)(u:Unit) b hx hp=>zu (Z3 (Bnds.h3 hx).1 (Bnds.h3 hx).2.1)) (fun(p:Rat×Rat×Rat)(q:Rat×Rat×Rat)(u:Unit) hx hp=>by
 refine⟨.nil,kcast (by kernel_rfl) ((rfl:(p.1*q.1,p.2.1*q.2.1,p.2.2*q.2.2)=mulV p q))⟩)
abbrev Nr:Ctr Tryz.prog:=FI.c Nt
abbrev WY:FI:=⟨129,[(.pr .rat (.pr .rat .rat)),(.pr .rat (.pr .rat .rat))],[(.p (.n 4294967296) (.p (.n 4294967296) (.n 4294967296))),(.p (.n 4294967296) (.p (.n 4294967296) (.n 4294967296)))],fun _=>[],fun b z=>(fun(p:Rat×Rat×Rat)(q:Rat×Rat×Rat)=> .c (.agg [.dt tV3 (bV3 ((b0 b).mx+(b1 b).mx+1)) (addV p q)])) z.1 z.2⟩
theorem WZ:WY.OK Tryz.prog:=mkF hmix 8 Tryz.func129 rfl rfl (by decide) [(204,.c No)] (fun(p:Rat×Rat×Rat)(q:Rat×Rat×Rat) b hx hp=>zu (F4 (Bnds.h2 hx).1 (Bnds.h2 hx).2)) (fun(p:Rat×Rat×Rat)(q:Rat×Rat×Rat) hx hp=>by
 refine⟨.nil,kcast (by kernel_rfl) ((Eq.refl (addV p q)))⟩)
abbrev LB:Ctr Tryz.prog:=FI.c WZ
abbrev X1:FI:=⟨21,[(.pr .rat (.pr .rat .rat)),(.pr .rat (.pr .rat .rat))],[(.p (.n 4294967296) (.p (.n 4294967296) (.n 4294967296))),(.p (.n 4294967296) (.p (.n 4294967296) (.n 4294967296)))],fun _=>[],fun b z=>(fun(p:Rat×Rat×Rat)(q:Rat×Rat×Rat)=> .c (.agg [.dt tV3 (bV3 ((b0 b).mx+(b1 b).mx+1)) (addV p q)])) z.1 z.2⟩
theorem X2:X1.OK Tryz.prog:=mkF hmix 20 Tryz.func21 rfl rfl (by decide) [(53,.c Ka)] (fun(p:Rat×Rat×Rat)(q:Rat×Rat×Rat) b hx hp=>zu (F4 (Bnds.h2 hx).1 (Bnds.h2 hx).2)) (fun(p:Rat×Rat×Rat)(q:Rat×Rat×Rat) hx hp=>by
 refine⟨.nil,kcast (by kernel_rfl) ((rfl:(p.1+q.1,p.2.1+q.2.1,p.2.2+q.2.2)=addV p q))⟩)
abbrev X0:Ctr Tryz.prog:=FI.c X2
abbrev Pj:FI:=⟨130,[.rat,(.pr .rat (.pr .rat .rat))],[(.n 4294967296),(.p (.n 4294967296) (.p (.n 4294967296) (.n 4294967296)))],fun _=>[],fun b z=>(fun(r:Rat)(q:Rat×Rat×Rat)=> .c (.agg [.dt tV3 (bV3 ((b0 b).mx+(b1 b).mx)) (qI r q)])) z.1 z.2⟩
theorem Pk:Pj.OK Tryz.prog:=mkF hmix 11 Tryz.func130 rfl rfl (by decide) [] (fun(r:Rat)(q:Rat×Rat×Rat) b hx hp=>zu (EO (Bnds.h2 hx).1 (Bnds.h2 hx).2)) (fun(r:Rat)(q:Rat×Rat×Rat) hx hp=>by
 refine⟨.h 1 5 (.c Nr) (.nil),kcast (by kernel_rfl) ((rfl:mulV (r,r,r) q=qI r q))⟩)
abbrev Dv:Ctr Tryz.prog:=FI.c Pk
abbrev Pl:FI:=⟨22,[.rat,(.pr .rat (.pr .rat .rat))],[(.n 4294967296),(.p (.n 4294967296) (.p (.n 4294967296) (.n 4294967296)))],fun _=>[],fun b z=>(fun(r:Rat)(q:Rat×Rat×Rat)=> .c (.agg [.dt tV3 (bV3 ((b0 b).mx+(b1 b).mx)) (qI r q)])) z.1 z.2⟩
theorem Pm:Pl.OK Tryz.prog:=mkF hmix 18 Tryz.func22 rfl rfl (by decide) [(27,.c Kb)] (fun(r:Rat)(q:Rat×Rat×Rat) b hx hp=>zu (EO (Bnds.h2 hx).1 (Bnds.h2 hx).2)) (fun(r:Rat)(q:Rat×Rat×Rat) hx hp=>by
 refine⟨.nil,kcast (by kernel_rfl) ((rfl:(r*q.1,r*q.2.1,r*q.2.2)=qI r q))⟩)
abbrev HK:Ctr Tryz.prog:=FI.c Pm
abbrev X3:FI:=⟨72,[(.pr .rat (.pr .rat .rat)),(.pr .rat (.pr .rat .rat))],[(.p (.n 4294967296) (.p (.n 4294967296) (.n 4294967296))),(.p (.n 4294967296) (.p (.n 4294967296) (.n 4294967296)))],fun _=>[],fun b z=>(fun(p:Rat×Rat×Rat)(q:Rat×Rat×Rat)=> .c (.agg [.dt .rat (.n (3*((b0 b).mx+(b1 b).mx)+2)) (dotQ p q)])) z.1 z.2⟩
theorem X4:X3.OK Tryz.prog:=mkF hmix 21 Tryz.func72 rfl rfl (by decide) [(74,.c FT),(139,.c Lh)] (fun(p:Rat×Rat×Rat)(q:Rat×Rat×Rat) b hx hp=>qP (ID (Bnds.h2 hx).1 (Bnds.h2 hx).2)) (fun(p:Rat×Rat×Rat)(q:Rat×Rat×Rat) hx hp=>by
 refine⟨.nil,kcast (by kernel_rfl) ((by rw[Rat.zero_add];rfl:((0+(p.1*q.1))+(p.2.1*q.2.1))+(p.2.2*q.2.2)=dotQ p q))⟩)
abbrev Ac:Ctr Tryz.prog:=FI.c X4
abbrev X5:FI:=⟨33,[(.pr .rat (.pr .rat .rat)),(.pr .rat (.pr .rat .rat))],[(.p (.n 4294967296) (.p (.n 4294967296) (.n 4294967296))),(.p (.n 4294967296) (.p (.n 4294967296) (.n 4294967296)))],fun _=>[],fun b z=>(fun(p:Rat×Rat×Rat)(q:Rat×Rat×Rat)=> .c (.agg [.dt .rat (.n (3*((b0 b).mx+(b1 b).mx)+2)) (dotQ p q)])) z.1 z.2⟩
theorem X6:X5.OK Tryz.prog:=mkF hmix 21 Tryz.func33 rfl rfl (by decide) [(27,.c Kb),(53,.c Ka)] (fun(p:Rat×Rat×Rat)(q:Rat×Rat×Rat) b hx hp=>qP (ID (Bnds.h2 hx).1 (Bnds.h2 hx).2)) (fun(p:Rat×Rat×Rat)(q:Rat×Rat×Rat) hx hp=>by
 refine⟨.nil,kcast (by kernel_rfl) ((by rw[Rat.zero_add];rfl:((0+(p.1*q.1))+(p.2.1*q.2.1))+(p.2.2*q.2.2)=dotQ p q))⟩)
abbrev BM:Ctr Tryz.prog:=FI.c X6
abbrev Pe:FI:=⟨136,[(.pr .rat (.pr .rat .rat)),(.pr .rat (.pr .rat .rat))],[(.p (.n 4294967296) (.p (.n 4294967296) (.n 4294967296))),(.p (.n 4294967296) (.p (.n 4294967296) (.n 4294967296)))],fun _=>[],fun b z=>(fun(p:Rat×Rat×Rat)(q:Rat×Rat×Rat)=> .c (.agg [.dt tV3 (bV3 (2*((b0 b).mx+(b1 b).mx)+1)) (qc p q)])) z.1 z.2⟩
theorem Pf:Pe.OK Tryz.prog:=mkF hmix 37 Tryz.func136 rfl rfl (by decide) [(71,.c FU),(74,.c FT)] (fun(p:Rat×Rat×Rat)(q:Rat×Rat×Rat) b hx hp=>zu (Ex (Bnds.h2 hx).1 (Bnds.h2 hx).2)) (fun(p:Rat×Rat×Rat)(q:Rat×Rat×Rat) hx hp=>by
 refine⟨.nil,kcast (by kernel_rfl) ((rfl:((p.2.1*q.2.2) -(p.2.2*q.2.1),(p.2.2*q.1) -(p.1*q.2.2),(p.1*q.2.1) -(p.2.1*q.1))=qc p q))⟩)
abbrev B3:Ctr Tryz.prog:=FI.c Pf
abbrev Pg:FI:=⟨118,[(.pr .rat (.pr .rat .rat)),(.pr .rat (.pr .rat .rat))],[(.p (.n 4294967296) (.p (.n 4294967296) (.n 4294967296))),(.p (.n 4294967296) (.p (.n 4294967296) (.n 4294967296)))],fun _=>[],fun b z=>(fun(p:Rat×Rat×Rat)(q:Rat×Rat×Rat)=> .c (.agg [.dt tV3 (bV3 (2*((b0 b).mx+(b1 b).mx)+1)) (qc p q)])) z.1 z.2⟩
theorem Ph:Pg.OK Tryz.prog:=mkF hmix 37 Tryz.func118 rfl rfl (by decide) [(27,.c Kb),(28,.c Dy)] (fun(p:Rat×Rat×Rat)(q:Rat×Rat×Rat) b hx hp=>zu (Ex (Bnds.h2 hx).1 (Bnds.h2 hx).2)) (fun(p:Rat×Rat×Rat)(q:Rat×Rat×Rat) hx hp=>by
 refine⟨.nil,kcast (by kernel_rfl) ((rfl:((p.2.1*q.2.2) -(p.2.2*q.2.1),(p.2.2*q.1) -(p.1*q.2.2),(p.1*q.2.1) -(p.2.1*q.1))=qc p q))⟩)
abbrev B4:Ctr Tryz.prog:=FI.c Ph
abbrev ZC:FI:=⟨194,[.rat],[(.n 1099511627776)],fun _=>[],fun b z=>(fun(x:Rat)=> .c (.agg [.dt .rat (b0 b) x])) z⟩
theorem ZD:ZC.OK Tryz.prog:=mkF hmix 12 Tryz.func194 rfl rfl (by decide) [(209,.c BW)] (fun(x:Rat) b hx hp=>qP (Bnds.h1 hx)) (fun(x:Rat) hx hp=>by
 have hx0:Bnd .rat (.n 1099511627776) x:=hx
 refine⟨.h 1 7 (.c Ak) (.h 1 8 (.rat x 1099511627776) (.nil)),kcast (by kernel_rfl) (I (Eq.refl (decide (x.num<0))) (I (Eq.refl x.num.natAbs) (I (Eq.refl (denL x.den)) (I (hx0.1:lt2 x.num.natAbs 1099511627776) (I (hx0.2:le2 x.den 1099511627776) ((Eq.refl x)))))))⟩)
abbrev ZB:Ctr Tryz.prog:=FI.c ZD
abbrev QR:FI:=⟨122,[(.pr .rat (.pr .rat .rat))],[(.p (.n 1099511627776) (.p (.n 1099511627776) (.n 1099511627776)))],fun _=>[],fun b z=>(fun(x:Rat×Rat×Rat)=> .c (.agg [.dt tV3 (b0 b) x])) z⟩
theorem QS:QR.OK Tryz.prog:=mkF hmix 13 Tryz.func122 rfl rfl (by decide) [(194,.c ZB)] (fun(x:Rat×Rat×Rat) b hx hp=>qP (Bnds.h1 hx)) (fun(x:Rat×Rat×Rat) hx hp=>by
 refine⟨.nil,kcast (by kernel_rfl) ((rfl:(x.1,x.2.1,x.2.2)=x))⟩)
abbrev QQ:Ctr Tryz.prog:=FI.c QS
abbrev TO:FB:=⟨19,(.pr (.sl (.int .i64)) (.nat .i64)),(.p (.s 1048576 (.n 9223372036854775808)) (.n 1048576)),[],[],fun s z=>[],fun tb b s z=> .c (.agg [.dt tV3 (bV3 (5)) (j8 s)]),fun s z=>j7 s,fun tb b=> .p tb.l (.n (max tb.r.nb tb.l.len))⟩
theorem TP:TO.OK Tryz.prog:=mkB' hmix 22 Tryz.func19 rfl rfl (by decide) [(20,.b Tw),(24,.b DE),(29,.c Ga),(75,.c Xr)] (fun _=>rfl) (fun _ _=>rfl) (fun _ _ _ _=>rfl) (fun(s:List Int×Nat)  tb b hs hx hp=>⟨zu (Lz s),WQ hs⟩) (fun(s:List Int×Nat)  hs hx hp=>by
 refine⟨.nil,kcast (by kernel_rfl) (I (?_:(0:Int)<5) (I (?_:(0:Int)<4) (Sp (decide (q7 (q6 s) 4=4-1)=true) (fun h1=>I (?_:(0:Int)<9) (I (?_:(0:Int)<5) (I (?_:(0:Int)<4) (Sp (decide (q7 (q6 (q6 (q6 (q6 s)))) 4=4-1)=true) (fun h2=>I (?_:(0:Int)<9) (I (?_:(0:Int)<5) (I (?_:(0:Int)<4) (Sp (decide (q7 (q6 (q6 (q6 (q6 (q6 (q6 (q6 s))))))) 4=4-1)=true) (fun h3=>I (?_:(0:Int)<9) (And.intro (by unfold j7 oneS;simp only[if_pos (show q7 (q6 s) 4=3 from(yd h1)),if_pos (show q7 (q6 (q6 (q6 (q6 s)))) 4=3 from(yd h2)),if_pos (show q7 (q6 (q6 (q6 (q6 (q6 (q6 (q6 s))))))) 4=3 from(yd h3))]:q6 (q6 (q6 (q6 (q6 (q6 (q6 (q6 (q6 s))))))))=j7 s) ((by unfold j8 oneV oneS;simp only[if_pos (show q7 (q6 s) 4=3 from(yd h1)),if_pos (show q7 (q6 (q6 (q6 (q6 s)))) 4=3 from(yd h2)),if_pos (show q7 (q6 (q6 (q6 (q6 (q6 (q6 (q6 s))))))) 4=3 from(yd h3))]:(((q7 (q6 (q6 s)) 9:Int):Rat)/((2:Int):Rat),((q7 (q6 (q6 (q6 (q6 (q6 s))))) 9:Int):Rat)/((2:Int):Rat),((q7 (q6 (q6 (q6 (q6 (q6 (q6 (q6 (q6 s)))))))) 9:Int):Rat)/((2:Int):Rat))=j8 s)))) (fun h4=>And.intro (by unfold j7 oneS;simp only[if_pos (show q7 (q6 s) 4=3 from(yd h1)),if_pos (show q7 (q6 (q6 (q6 (q6 s)))) 4=3 from(yd h2)),if_neg (show¬q7 (q6 (q6 (q6 (q6 (q6 (q6 (q6 s))))))) 4=3 from(yd' h4))]:q6 (q6 (q6 (q6 (q6 (q6 (q6 (q6 s)))))))=j7 s) ((by unfold j8 oneV oneS;simp only[if_pos (show q7 (q6 s) 4=3 from(yd h1)),if_pos (show q7 (q6 (q6 (q6 (q6 s)))) 4=3 from(yd h2)),if_neg (show¬q7 (q6 (q6 (q6 (q6 (q6 (q6 (q6 s))))))) 4=3 from(yd' h4))]:(((q7 (q6 (q6 s)) 9:Int):Rat)/((2:Int):Rat),((q7 (q6 (q6 (q6 (q6 (q6 s))))) 9:Int):Rat)/((2:Int):Rat),((q7 (q6 (q6 (q6 (q6 (q6 (q6 s)))))) 5:Int):Rat))=j8 s))))))) (fun h5=>I (?_:(0:Int)<5) (I (?_:(0:Int)<4) (Sp (decide (q7 (q6 (q6 (q6 (q6 (q6 (q6 s)))))) 4=4-1)=true) (fun h6=>I (?_:(0:Int)<9) (And.intro (by unfold j7 oneS;simp only[if_pos (show q7 (q6 s) 4=3 from(yd h1)),if_neg (show¬q7 (q6 (q6 (q6 (q6 s)))) 4=3 from(yd' h5)),if_pos (show q7 (q6 (q6 (q6 (q6 (q6 (q6 s)))))) 4=3 from(yd h6))]:q6 (q6 (q6 (q6 (q6 (q6 (q6 (q6 s)))))))=j7 s) ((by unfold j8 oneV oneS;simp only[if_pos (show q7 (q6 s) 4=3 from(yd h1)),if_neg (show¬q7 (q6 (q6 (q6 (q6 s)))) 4=3 from(yd' h5)),if_pos (show q7 (q6 (q6 (q6 (q6 (q6 (q6 s)))))) 4=3 from(yd h6))]:(((q7 (q6 (q6 s)) 9:Int):Rat)/((2:Int):Rat),((q7 (q6 (q6 (q6 s))) 5:Int):Rat),((q7 (q6 (q6 (q6 (q6 (q6 (q6 (q6 s))))))) 9:Int):Rat)/((2:Int):Rat))=j8 s)))) (fun h7=>And.intro (by unfold j7 oneS;simp only[if_pos (show q7 (q6 s) 4=3 from(yd h1)),if_neg (show¬q7 (q6 (q6 (q6 (q6 s)))) 4=3 from(yd' h5)),if_neg (show¬q7 (q6 (q6 (q6 (q6 (q6 (q6 s)))))) 4=3 from(yd' h7))]:q6 (q6 (q6 (q6 (q6 (q6 (q6 s))))))=j7 s) ((by unfold j8 oneV oneS;simp only[if_pos (show q7 (q6 s) 4=3 from(yd h1)),if_neg (show¬q7 (q6 (q6 (q6 (q6 s)))) 4=3 from(yd' h5)),if_neg (show¬q7 (q6 (q6 (q6 (q6 (q6 (q6 s)))))) 4=3 from(yd' h7))]:(((q7 (q6 (q6 s)) 9:Int):Rat)/((2:Int):Rat),((q7 (q6 (q6 (q6 s))) 5:Int):Rat),((q7 (q6 (q6 (q6 (q6 (q6 s))))) 5:Int):Rat))=j8 s)))))))))) (fun h8=>I (?_:(0:Int)<5) (I (?_:(0:Int)<4) (Sp (decide (q7 (q6 (q6 (q6 s))) 4=4-1)=true) (fun h9=>I (?_:(0:Int)<9) (I (?_:(0:Int)<5) (I (?_:(0:Int)<4) (Sp (decide (q7 (q6 (q6 (q6 (q6 (q6 (q6 s)))))) 4=4-1)=true) (fun h10=>I (?_:(0:Int)<9) (And.intro (by unfold j7 oneS;simp only[if_neg (show¬q7 (q6 s) 4=3 from(yd' h8)),if_pos (show q7 (q6 (q6 (q6 s))) 4=3 from(yd h9)),if_pos (show q7 (q6 (q6 (q6 (q6 (q6 (q6 s)))))) 4=3 from(yd h10))]:q6 (q6 (q6 (q6 (q6 (q6 (q6 (q6 s)))))))=j7 s) ((by unfold j8 oneV oneS;simp only[if_neg (show¬q7 (q6 s) 4=3 from(yd' h8)),if_pos (show q7 (q6 (q6 (q6 s))) 4=3 from(yd h9)),if_pos (show q7 (q6 (q6 (q6 (q6 (q6 (q6 s)))))) 4=3 from(yd h10))]:(((q7 s 5:Int):Rat),((q7 (q6 (q6 (q6 (q6 s)))) 9:Int):Rat)/((2:Int):Rat),((q7 (q6 (q6 (q6 (q6 (q6 (q6 (q6 s))))))) 9:Int):Rat)/((2:Int):Rat))=j8 s)))) (fun h11=>And.intro (by unfold j7 oneS;simp only[if_neg (show¬q7 (q6 s) 4=3 from(yd' h8)),if_pos (show q7 (q6 (q6 (q6 s))) 4=3 from(yd h9)),if_neg (show¬q7 (q6 (q6 (q6 (q6 (q6 (q6 s)))))) 4=3 from(yd' h11))]:q6 (q6 (q6 (q6 (q6 (q6 (q6 s))))))=j7 s) ((by unfold j8 oneV oneS;simp only[if_neg (show¬q7 (q6 s) 4=3 from(yd' h8)),if_pos (show q7 (q6 (q6 (q6 s))) 4=3 from(yd h9)),if_neg (show¬q7 (q6 (q6 (q6 (q6 (q6 (q6 s)))))) 4=3 from(yd' h11))]:(((q7 s 5:Int):Rat),((q7 (q6 (q6 (q6 (q6 s)))) 9:Int):Rat)/((2:Int):Rat),((q7 (q6 (q6 (q6 (q6 (q6 s))))) 5:Int):Rat))=j8 s))))))) (fun h12=>I (?_:(0:Int)<5) (I (?_:(0:Int)<4) (Sp (decide (q7 (q6 (q6 (q6 (q6 (q6 s))))) 4=4-1)=true) (fun h13=>I (?_:(0:Int)<9) (And.intro (by unfold j7 oneS;simp only[if_neg (show¬q7 (q6 s) 4=3 from(yd' h8)),if_neg (show¬q7 (q6 (q6 (q6 s))) 4=3 from(yd' h12)),if_pos (show q7 (q6 (q6 (q6 (q6 (q6 s))))) 4=3 from(yd h13))]:q6 (q6 (q6 (q6 (q6 (q6 (q6 s))))))=j7 s) ((by unfold j8 oneV oneS;simp only[if_neg (show¬q7 (q6 s) 4=3 from(yd' h8)),if_neg (show¬q7 (q6 (q6 (q6 s))) 4=3 from(yd' h12)),if_pos (show q7 (q6 (q6 (q6 (q6 (q6 s))))) 4=3 from(yd h13))]:(((q7 s 5:Int):Rat),((q7 (q6 (q6 s)) 5:Int):Rat),((q7 (q6 (q6 (q6 (q6 (q6 (q6 s)))))) 9:Int):Rat)/((2:Int):Rat))=j8 s)))) (fun h14=>And.intro (by unfold j7 oneS;simp only[if_neg (show¬q7 (q6 s) 4=3 from(yd' h8)),if_neg (show¬q7 (q6 (q6 (q6 s))) 4=3 from(yd' h12)),if_neg (show¬q7 (q6 (q6 (q6 (q6 (q6 s))))) 4=3 from(yd' h14))]:q6 (q6 (q6 (q6 (q6 (q6 s)))))=j7 s) ((by unfold j8 oneV oneS;simp only[if_neg (show¬q7 (q6 s) 4=3 from(yd' h8)),if_neg (show¬q7 (q6 (q6 (q6 s))) 4=3 from(yd' h12)),if_neg (show¬q7 (q6 (q6 (q6 (q6 (q6 s))))) 4=3 from(yd' h14))]:(((q7 s 5:Int):Rat),((q7 (q6 (q6 s)) 5:Int):Rat),((q7 (q6 (q6 (q6 (q6 s)))) 5:Int):Rat))=j8 s))))))))))))⟩<;>omega)
abbrev KL:CtrB Tryz.prog:=FB.c TP
abbrev XS:FI:=⟨54,[(.int .i64),(.int .i64),(.int .i64)],[(.n 1099511627776),(.n 1099511627776),(.n 1099511627776)],fun _=>[],fun b z=>(fun(x:Int)(y:Int)(z:Int)=> .c (.agg [.dt tV3 (bV3 (max (Nat.log2 (b0 b).nb+1) (max (Nat.log2 (b1 b).nb+1) (Nat.log2 (b2 b).nb+1)))) ((x:Rat),(y:Rat),(z:Rat))])) z.1 z.2.1 z.2.2⟩
theorem XT:XS.OK Tryz.prog:=mkF hmix 14 Tryz.func54 rfl rfl (by decide) [(29,.c Ga)] (fun(x:Int)(y:Int)(z:Int) b hx hp=>zu ⟨ja (A5 (Bnds.h3 hx).1.int) (by omega),ja (A5 (Bnds.h3 hx).2.1.int) (by omega),ja (A5 (Bnds.h3 hx).2.2.int) (by omega)⟩) (fun(x:Int)(y:Int)(z:Int) hx hp=>by
 refine⟨.nil,kcast (by kernel_rfl) ((rfl:((x:Rat),(y:Rat),(z:Rat))=(((x:Int):Rat),((y:Int):Rat),((z:Int):Rat))))⟩)
abbrev XR:Ctr Tryz.prog:=FI.c XT
theorem zA(x:Rat):0≤x*x:=by
 rcases Rat.le_total (a:=0) (b:=x)with h|h
 ·exact Rat.mul_nonneg h h
 ·have:=Rat.mul_nonneg (show 0≤ -x by grind) (show 0≤ -x by grind);grind
theorem Fk(v:V3):0≤dotQ v v:=by
 have h1:=zA v.1;have h2:=zA v.2.1;have h3:=zA v.2.2
 unfold dotQ;grind
theorem GU{x:Rat}(h:x*x=0):x=0:=by
 rcases Rat.mul_eq_zero.1 h with h|h<;>exact h
theorem Ey{v:V3}(h:dotQ v v=0):v=(0,0,0):=by
 have h1:=zA v.1;have h2:=zA v.2.1;have h3:=zA v.2.2
 unfold dotQ at h
 have a:=GU (show v.1*v.1=0 by grind);have b:=GU (show v.2.1*v.2.1=0 by grind);have c:=GU (show v.2.2*v.2.2=0 by grind)
 exact wQ.2 ⟨a,b,c⟩
theorem div_eq{x y:Rat}(h:y≠0):x/y*y=x:=Rat.div_mul_cancel h
theorem Br{x y:Rat}(h:0≤x)(k:0<y):0≤x/y:=by
 rcases Rat.le_total (a:=0) (b:=x/y)with h1|h1
 ·exact h1
 ·have e:=div_eq (x:=x) (y:=y) (by grind)
  have:=Rat.mul_nonneg (show 0≤ -(x/y) by grind) (Rat.le_of_lt k)
  have hx:x=0:=by grind
  rw[hx,Rat.div_def,Rat.zero_mul];exact Rat.le_refl
theorem TE{x y:Rat}(h:x≤y)(k:0<y):x/y≤1:=by
 have e:=div_eq (x:=x) (y:=y) (by grind)
 have e2:=Br (show 0≤y-x by grind) k
 have e3:(y-x)/y=1-x/y:=by
  have q:=div_eq (x:=y-x) (y:=y) (by grind)
  have:((y-x)/y-(1-x/y))*y=0:=by grind
  rcases Rat.mul_eq_zero.1 this with h|h<;>grind
 grind
def onS(a b:V3)(s:Rat):V3:=addV a (qI s (subV b a))
def d2(p q:V3):Rat:=dotQ (subV p q) (subV p q)
def segQ(a b p:V3):Rat:=
 if dotQ (subV p a) (subV b a)≤0 then d2 p a else if dotQ (subV b a) (subV b a)≤dotQ (subV p a) (subV b a)then d2 p b
 else d2 p (onS a b (dotQ (subV p a) (subV b a)/dotQ (subV b a) (subV b a)))
theorem Bn{x y:Rat}:0<cmpQ x y↔y<x:=by unfold cmpQ;(repeat' split)<;>grind
theorem A1{x y:Rat}:cmpQ x y<0↔x<y:=by unfold cmpQ;(repeat' split)<;>grind
theorem Qy(x y:Rat):minQ x y=min x y:=by unfold minQ;split<;>rename_i h<;>rw[A1]at h<;>grind
theorem Qm(x y:Rat):maxQ x y=max x y:=by unfold maxQ;split<;>rename_i h<;>rw[Bn]at h<;>grind
def clamp(t:Rat):Rat:=maxQ 0 (minQ 1 t)
theorem I6(a b:V3):onS a b 0=a:=by simp only[onS,addV,qI,subV];rw[wQ];grind
theorem q1X(a b:V3):onS a b 1=b:=by simp only[onS,addV,qI,subV];rw[wQ];grind
theorem PR{x n:Rat}(h:n≠0):(x-n)/n=x/n-1:=by
 have q:=div_eq (x:=x-n) h
 have e:=div_eq (x:=x) h
 have:((x-n)/n-(x/n-1))*n=0:=by grind
 rcases Rat.mul_eq_zero.1 this with h|h<;>grind
theorem Tk{x n:Rat}(h0:0<n):clamp (x/n)=if x≤0 then 0 else if n≤x then 1 else x/n:=by
 unfold clamp
 rw[Qm,Qy]
 split
 ·have:=Br (show 0≤ -x by grind) h0
  have e2: -x/n= -(x/n):=by rw[Rat.div_def,Rat.div_def,Rat.neg_mul]
  grind
 ·split
  ·have h2:=Br (show 0≤x-n by grind) h0
   rw[PR (by grind)]at h2
   grind
  ·have h1:=Br (show 0≤x by grind) h0
   have h2:=TE (show x≤n by grind) h0
   grind
theorem Rv(a b p:V3)(h:dotQ (subV b a) (subV b a)≠0):segQ a b p=d2 p (onS a b (clamp (dotQ (subV p a) (subV b a)/dotQ (subV b a) (subV b a)))):=by
 have hn:=Fk (subV b a)
 rw[Tk (by grind)]
 unfold segQ
 split
 ·rw[I6]
 ·split
  ·rw[q1X]
  ·rfl
theorem Ru(a b p:V3)(h:dotQ (subV b a) (subV b a)=0):segQ a b p=d2 p a:=by
 have e:=Ey h
 have:dotQ (subV p a) (subV b a)=0:=by rw[e];simp only[dotQ];grind
 unfold segQ
 rw[this,if_pos Rat.le_refl]
section
abbrev T3:Type:=V3×V3×V3
def D2(t:T3)(p:V3):Rat:=minQ (minQ (segQ t.1 t.2.1 p) (segQ t.2.1 t.2.2 p)) (segQ t.2.2 t.1 p)
def qz(t:T3):V3:=qc (subV t.2.1 t.1) (subV t.2.2 t.1)
def jO(N a b p:V3):Prop:=dotQ (qc (subV b a) N) a<dotQ (qc (subV b a) N) p
instance(N a b p:V3):Decidable (jO N a b p):=by unfold jO;infer_instance
def vm(t:T3)(p:V3):Rat:=
 if qz t=(0,0,0)then D2 t p else if jO (qz t) t.1 t.2.1 p∨jO (qz t) t.2.1 t.2.2 p∨jO (qz t) t.2.2 t.1 p then D2 t p
 else(dotQ (qz t) p-dotQ (qz t) t.1)*(dotQ (qz t) p-dotQ (qz t) t.1)/dotQ (qz t) (qz t)
def phi(E F G a b c u v:Rat):Rat:=u*u*E+2*u*v*F+v*v*G-2*u*a-2*v*b+c
section
variable (e1 e2 w:V3)
theorem lagr:dotQ (qc e1 e2) (qc e1 e2)=dotQ e1 e1*dotQ e2 e2-dotQ e1 e2*dotQ e1 e2:=by
 obtain⟨a1,a2,a3⟩:=e1;obtain⟨b1,b2,b3⟩:=e2
 simp only[dotQ,qc];grind
theorem gramd:dotQ (qc e1 e2) w*dotQ (qc e1 e2) w=dotQ e1 e1*dotQ e2 e2*dotQ w w+2*dotQ e1 e2*dotQ w e1*dotQ w e2-dotQ e1 e1*dotQ w e2*dotQ w e2-dotQ e2 e2*dotQ w e1*dotQ w e1-dotQ e1 e2*dotQ e1 e2*dotQ w w:=by
 obtain⟨a1,a2,a3⟩:=e1;obtain⟨b1,b2,b3⟩:=e2;obtain⟨w1,w2,w3⟩:=w
 simp only[dotQ,qc];grind
theorem tri1:dotQ (qc e1 (qc e1 e2)) w=dotQ e1 e2*dotQ w e1-dotQ e1 e1*dotQ w e2:=by
 obtain⟨a1,a2,a3⟩:=e1;obtain⟨b1,b2,b3⟩:=e2;obtain⟨w1,w2,w3⟩:=w
 simp only[dotQ,qc];grind
theorem tri2:dotQ (qc e2 (qc e1 e2)) w=dotQ e2 e2*dotQ w e1-dotQ e1 e2*dotQ w e2:=by
 obtain⟨a1,a2,a3⟩:=e1;obtain⟨b1,b2,b3⟩:=e2;obtain⟨w1,w2,w3⟩:=w
 simp only[dotQ,qc];grind
end
theorem Bs(n p a:V3):dotQ n (subV p a)=dotQ n p-dotQ n a:=by
 obtain⟨a1,a2,a3⟩:=a;obtain⟨b1,b2,b3⟩:=n;obtain⟨w1,w2,w3⟩:=p
 simp only[dotQ,subV];grind
theorem Y9(a b c p:V3):jO (qc (subV b a) (subV c a)) a b p↔0<dotQ (qc (subV b a) (qc (subV b a) (subV c a))) (subV p a):=by
 unfold jO;rw[Bs];grind
theorem Yb(a b c p:V3):jO (qc (subV b a) (subV c a)) c a p↔dotQ (qc (subV c a) (qc (subV b a) (subV c a))) (subV p a)<0:=by
 have h1:dotQ (qc (subV a c) (qc (subV b a) (subV c a))) p= -dotQ (qc (subV c a) (qc (subV b a) (subV c a))) p:=by
  generalize qc (subV b a) (subV c a)=N
  obtain⟨a1,a2,a3⟩:=a;obtain⟨b1,b2,b3⟩:=c;obtain⟨w1,w2,w3⟩:=p;obtain⟨n1,n2,n3⟩:=N
  simp only[dotQ,subV,qc];grind
 have h2:dotQ (qc (subV a c) (qc (subV b a) (subV c a))) c= -dotQ (qc (subV c a) (qc (subV b a) (subV c a))) a:=by
  generalize qc (subV b a) (subV c a)=N
  obtain⟨a1,a2,a3⟩:=a;obtain⟨b1,b2,b3⟩:=c;obtain⟨n1,n2,n3⟩:=N
  simp only[dotQ,subV,qc];grind
 unfold jO;rw[Bs,h1,h2];grind
theorem Ya(a b c p:V3):jO (qc (subV b a) (subV c a)) b c p↔
  dotQ (qc (subV b a) (subV c a)) (qc (subV b a) (subV c a))<dotQ (qc (subV c a) (qc (subV b a) (subV c a))) (subV p a) -dotQ (qc (subV b a) (qc (subV b a) (subV c a))) (subV p a):=by
 have h1:dotQ (qc (subV c b) (qc (subV b a) (subV c a))) p=dotQ (qc (subV c a) (qc (subV b a) (subV c a))) p-dotQ (qc (subV b a) (qc (subV b a) (subV c a))) p:=by
  generalize qc (subV b a) (subV c a)=N
  obtain⟨a1,a2,a3⟩:=a;obtain⟨b1,b2,b3⟩:=b;obtain⟨c1,c2,c3⟩:=c;obtain⟨w1,w2,w3⟩:=p;obtain⟨n1,n2,n3⟩:=N
  simp only[dotQ,subV,qc];grind
 have h2:dotQ (qc (subV c b) (qc (subV b a) (subV c a))) b=dotQ (qc (subV b a) (subV c a)) (qc (subV b a) (subV c a))+dotQ (qc (subV c a) (qc (subV b a) (subV c a))) a-dotQ (qc (subV b a) (qc (subV b a) (subV c a))) a:=by
  obtain⟨a1,a2,a3⟩:=a;obtain⟨b1,b2,b3⟩:=b;obtain⟨c1,c2,c3⟩:=c
  simp only[dotQ,subV,qc];grind
 unfold jO;rw[Bs,Bs,h1,h2];grind
theorem q21(a b c p:V3)(u v:Rat):d2 p (addV a (addV (qI u (subV b a)) (qI v (subV c a))))=
  phi (dotQ (subV b a) (subV b a)) (dotQ (subV b a) (subV c a)) (dotQ (subV c a) (subV c a)) (dotQ (subV p a) (subV b a)) (dotQ (subV p a) (subV c a)) (dotQ (subV p a) (subV p a)) u v:=by
 obtain⟨a1,a2,a3⟩:=a;obtain⟨b1,b2,b3⟩:=b;obtain⟨c1,c2,c3⟩:=c;obtain⟨w1,w2,w3⟩:=p
 simp only[d2,dotQ,subV,addV,qI,phi];grind
section
variable {E F G a b c K H:Rat}
theorem ZE(u v:Rat)(hK:K=E*G-F*F)(hH:H=E*G*c+2*F*a*b-E*b*b-G*a*a-F*F*c):
  K*(K*phi E F G a b c u v-H)=(K*u-(G*a-F*b))*(K*u-(G*a-F*b))*E+2*(K*u-(G*a-F*b))*(K*v-(E*b-F*a))*F+(K*v-(E*b-F*a))*(K*v-(E*b-F*a))*G:=by
 subst hK hH;unfold phi;grind
theorem Ms{x K:Rat}(hK:0<K)(h:0≤K*x):0≤x:=by
 rcases Rat.le_total (a:=0) (b:=x)with h1|h1
 ·exact h1
 ·have h2:=Rat.mul_nonneg (Rat.le_of_lt hK) (show 0≤ -x by grind)
  have h3:K*x=0:=by grind
  rcases Rat.mul_eq_zero.1 h3 with h4|h4<;>grind
end
end
theorem SQ{x:Rat}:sgnQ x=if x<0 then-1 else if x=0 then 0 else 1:=by
 have e0:x<0↔x.num<0:=by
  have:=Rat.num_nonneg (q:=x)
  constructor
  ·intro h;have: ¬0≤x.num:=fun e=>by have:=this.1 e;grind
   omega
  ·intro h;have: ¬0≤x:=fun e=>by have:=this.2 e;omega
   grind
 have e1:x=0↔x.num=0:=Rat.num_eq_zero.symm
 rcases zd x with⟨h,k⟩|⟨h,k⟩|⟨h,k⟩<;>rw[k]
 ·rw[if_pos (e0.2 h)]
 ·rw[if_neg (fun q=>by have:=e0.1 q;omega),if_pos (e1.2 h)]
 ·rw[if_neg (fun q=>by have:=e0.1 q;omega),if_neg (fun q=>by have:=e1.1 q;omega)]
theorem Wx(x y:Rat):sgnQ (x-y)=cmpQ x y:=by
 rw[SQ];unfold cmpQ
 by_cases h:x<y
 ·rw[if_pos h,if_pos (by grind)]
 ·rw[if_neg h,if_neg (by grind)]
  by_cases h2:x=y
  ·rw[if_pos h2,if_pos (by grind)]
  ·rw[if_neg h2,if_neg (by grind)]
theorem DB{x y:Rat}:cmpQ x y≤0↔x≤y:=by unfold cmpQ;(repeat' split)<;>grind
theorem OE{y:Rat}:quoC y=0↔y≠0:=by
 have e1:y=0↔y.num=0:=Rat.num_eq_zero.symm
 unfold quoC;split
 ·rename_i h;exact⟨fun e=>absurd e (by decide),fun e=>absurd (e1.2 (by omega)) e⟩
 ·rename_i h;exact⟨fun _ e=>h (by have:=e1.1 e;omega),fun _=>rfl⟩
theorem v7{b:Bd}{x:V3}{m:Nat}(h:Bnd tV3 b x)(hm:b.mx≤m):Bnd tV3 (bV3 m) x:=⟨ja h.v3.1 hm,ja h.v3.2.1 hm,ja h.v3.2.2 hm⟩
theorem sub_m{p q:V3}{m k:Nat}(hp:Bnd tV3 (bV3 m) p)(hq:Bnd tV3 (bV3 k) q):Bnd tV3 (bV3 (m+k+1)) (subV p q):=by
 have:=FY hp hq;simpa[Bd.mx]using this
theorem add_m{p q:V3}{m k:Nat}(hp:Bnd tV3 (bV3 m) p)(hq:Bnd tV3 (bV3 k) q):Bnd tV3 (bV3 (m+k+1)) (addV p q):=by
 have:=F4 hp hq;simpa[Bd.mx]using this
theorem GM{r:Rat}{q:V3}{m k:Nat}(hp:Bnd .rat (.n m) r)(hq:Bnd tV3 (bV3 k) q):Bnd tV3 (bV3 (m+k)) (qI r q):=by
 have:=EO hp hq;simpa[Bd.mx]using this
theorem wT{p q:V3}{m k:Nat}(hp:Bnd tV3 (bV3 m) p)(hq:Bnd tV3 (bV3 k) q):Bnd .rat (.n (3*(m+k)+2)) (dotQ p q):=by
 have:=ID hp hq;simpa[Bd.mx]using this
theorem KH{p q:V3}{m k:Nat}(hp:Bnd tV3 (bV3 m) p)(hq:Bnd tV3 (bV3 k) q):Bnd tV3 (bV3 (2*(m+k)+1)) (qc p q):=by
 have:=Ex hp hq;simpa[Bd.mx]using this
theorem Mt{x y:Rat}{m k:Nat}(hx:Bnd .rat (.n m) x)(hy:Bnd .rat (.n k) y):Bnd .rat (.n (m+k)) (x/y):=GJ hx hy
theorem zg{m k:Nat}{x:V3}(h:Bnd tV3 (bV3 m) x)(hm:m≤k):Bnd tV3 (bV3 k) x:=⟨ja h.1 hm,ja h.2.1 hm,ja h.2.2 hm⟩
theorem d2_m{p q:V3}{m k:Nat}(hp:Bnd tV3 (bV3 m) p)(hq:Bnd tV3 (bV3 k) q):Bnd .rat (.n (6*(m+k)+8)) (d2 p q):=
 ja (wT (sub_m hp hq) (sub_m hp hq)) (by omega)
theorem I9{a b p:V3}{m:Nat}(ha:Bnd tV3 (bV3 m) a)(hb:Bnd tV3 (bV3 m) b)(hp:Bnd tV3 (bV3 m) p):Bnd .rat (.n (168*m+116)) (segQ a b p):=by
 unfold segQ
 split
 ·exact ja (d2_m hp ha) (by omega)
 ·split
  ·exact ja (d2_m hp hb) (by omega)
  ·exact ja (d2_m hp (add_m ha (GM (Mt (wT (sub_m hp ha) (sub_m hb ha)) (wT (sub_m hb ha) (sub_m hb ha))) (sub_m hb ha)))) (by omega)
theorem q28{a b p:V3}{c d e:Bd}(ha:Bnd tV3 c a)(hb:Bnd tV3 d b)(hp:Bnd tV3 e p):Bnd .rat (.n (168*max c.mx (max d.mx e.mx)+116)) (segQ a b p):=
 I9 (v7 ha (by omega)) (v7 hb (by omega)) (v7 hp (by omega))
abbrev tT3:Ty:= .pr tV3 (.pr tV3 tV3)
abbrev bT3(m:Nat):Bd:= .p (bV3 m) (.p (bV3 m) (bV3 m))
abbrev tPl:Ty:= .pr tV3 .rat
theorem Bnd.t3{b:Bd}{t:T3}(h:Bnd tT3 b t):Bnd tV3 (bV3 b.mx) t.1∧Bnd tV3 (bV3 b.mx) t.2.1∧Bnd tV3 (bV3 b.mx) t.2.2:=by
 have h1:=h.pr;have h2:=h1.2.pr
 have:=b.l_mx;have:=b.r_mx;have:=b.r.l_mx;have:=b.r.r_mx
 exact⟨v7 h1.1 (by omega),v7 h2.1 (by omega),v7 h2.2 (by omega)⟩
theorem Jd{t:T3}{m:Nat}(h:Bnd tV3 (bV3 m) t.1∧Bnd tV3 (bV3 m) t.2.1∧Bnd tV3 (bV3 m) t.2.2):Bnd tV3 (bV3 (8*m+5)) (qz t):=
 zg (KH (sub_m h.2.1 h.1) (sub_m h.2.2 h.1)) (by omega)
def qd(t:T3):V3×Rat:=(qz t,dotQ (qz t) t.1)
theorem E5{t:T3}{m:Nat}(h:Bnd tV3 (bV3 m) t.1∧Bnd tV3 (bV3 m) t.2.1∧Bnd tV3 (bV3 m) t.2.2):Bnd tPl (.p (bV3 (27*m+17)) (.n (27*m+17))) (qd t):=
 ⟨zg (Jd h) (by omega),ja (wT (Jd h) h.1) (by omega)⟩
theorem KZ{t:T3}{p:V3}{m:Nat}(h:Bnd tV3 (bV3 m) t.1∧Bnd tV3 (bV3 m) t.2.1∧Bnd tV3 (bV3 m) t.2.2)(hp:Bnd tV3 (bV3 m) p):Bnd .rat (.n (168*m+116)) (D2 t p):=
 ja (Ch (Ch (I9 h.1 h.2.1 hp) (I9 h.2.1 h.2.2 hp)) (I9 h.2.2 h.1 hp)) (by simp[Bd.nb])
theorem XW{t:T3}{p:V3}{b c:Bd}(h:Bnd tT3 b t)(hp:Bnd tV3 c p):Bnd .rat (.n (168*max b.mx c.mx+116)) (vm t p):=by
 have h1:=h.t3
 have h2:Bnd tV3 (bV3 (max b.mx c.mx)) t.1∧Bnd tV3 (bV3 (max b.mx c.mx)) t.2.1∧Bnd tV3 (bV3 (max b.mx c.mx)) t.2.2:=⟨zg h1.1 (by omega),zg h1.2.1 (by omega),zg h1.2.2 (by omega)⟩
 have hp2:Bnd tV3 (bV3 (max b.mx c.mx)) p:=v7 hp (by omega)
 generalize max b.mx c.mx=m at*
 unfold vm
 split
 ·exact KZ h2 hp2
 ·split
  ·exact KZ h2 hp2
  ·have hN:=Jd h2
   have hd:=wW (wT hN hp2) (wT hN h2.1)
   exact ja (Mt (vo hd hd) (wT hN hN)) (by omega)
def upP(q:V3×Rat)(a b:V3):V3×Rat:=(qc (subV b a) q.1,dotQ (qc (subV b a) q.1) a)
theorem up_m{q:V3×Rat}{a b:V3}{m k:Nat}(hq:Bnd tV3 (bV3 k) q.1)(ha:Bnd tV3 (bV3 m) a)(hb:Bnd tV3 (bV3 m) b):Bnd tPl (.p (bV3 (15*m+6*k+11)) (.n (15*m+6*k+11))) (upP q a b):=by
 have h:=KH (sub_m hb ha) hq
 exact⟨zg h (by omega),ja (wT h ha) (by omega)⟩
theorem up_b{q:V3×Rat}{a b:V3}{c d e:Bd}(hq:Bnd tPl c q)(ha:Bnd tV3 d a)(hb:Bnd tV3 e b):Bnd tPl (.p (bV3 (15*max d.mx e.mx+6*c.mx+11)) (.n (15*max d.mx e.mx+6*c.mx+11))) (upP q a b):=
 up_m (v7 hq.pr.1 c.l_mx) (v7 ha (by omega)) (v7 hb (by omega))
theorem RD{a b c:V3}(h:qc (subV b a) (subV c a)=(0,0,0)):((0,0,0),0)=qd (a,b,c):=by
 have e:qz (a,b,c)=(0,0,0):=h
 unfold qd;rw[e];simp only[dotQ];congr 1;grind
def thrC(a b c:V3):Int:=if qz (a,b,c)=(0,0,0)then 9 else 0
theorem q0n(a b c:V3):(thrC a b c).natAbs≤9:=by unfold thrC;split<;>decide
theorem Nk{t:T3}{p:V3}(h:qz t=(0,0,0)):D2 t p=vm t p:=by unfold vm;rw[if_pos h]
theorem C0{t:T3}{p:V3}(h: ¬qz t=(0,0,0))(k:0<cmpQ (dotQ (upP (qd t) t.1 t.2.1).1 p) (upP (qd t) t.1 t.2.1).2∨0<cmpQ (dotQ (upP (qd t) t.2.1 t.2.2).1 p) (upP (qd t) t.2.1 t.2.2).2∨0<cmpQ (dotQ (upP (qd t) t.2.2 t.1).1 p) (upP (qd t) t.2.2 t.1).2):D2 t p=vm t p:=by
 rw[Bn,Bn,Bn]at k
 have k:jO (qz t) t.1 t.2.1 p∨jO (qz t) t.2.1 t.2.2 p∨jO (qz t) t.2.2 t.1 p:=k
 unfold vm;rw[if_neg h,if_pos k]
theorem Nl{t:T3}{p:V3}(h: ¬qz t=(0,0,0))(k0: ¬0<cmpQ (dotQ (upP (qd t) t.1 t.2.1).1 p) (upP (qd t) t.1 t.2.1).2)(k1: ¬0<cmpQ (dotQ (upP (qd t) t.2.1 t.2.2).1 p) (upP (qd t) t.2.1 t.2.2).2)(k2: ¬0<cmpQ (dotQ (upP (qd t) t.2.2 t.1).1 p) (upP (qd t) t.2.2 t.1).2):
  (dotQ (qd t).1 p-(qd t).2)*(dotQ (qd t).1 p-(qd t).2)/dotQ (qd t).1 (qd t).1=vm t p:=by
 rw[Bn]at k0 k1 k2
 unfold vm;rw[if_neg h,if_neg (by rintro(e|e|e)<;>contradiction)];rfl
def smlV(x:Rat):Int:=if x.den=1∧(limbs x.num.natAbs).length≤1 then x.num else 0
def smlB(x:Rat):Bool:=decide (x.den=1∧x.num.natAbs<268435456)
theorem Ng(x:Rat):(denL x.den).length=0↔x.den=1:=by
 unfold denL;split
 ·rename_i h;simp[h]
 ·rename_i h
  refine⟨fun e=>?_,fun e=>absurd e h⟩
  have:=nl0.1 e;exact absurd this x.den_nz
theorem Cr{x:Rat}(h:0<(denL x.den).length∨1<(limbs x.num.natAbs).length):0=smlV x∧false=smlB x:=by
 have e:=Ng x
 have hc: ¬(x.den=1∧(limbs x.num.natAbs).length≤1):=by
  rintro⟨a,b⟩;have:=e.2 a;omega
 refine⟨by unfold smlV;rw[if_neg hc],?_⟩
 symm;apply decide_eq_false
 rintro⟨a,b⟩
 refine hc ⟨a,AP (k:=1) (by omega)⟩
theorem GQ{x:Rat}(h0: ¬0<(denL x.den).length)(h1: ¬1<(limbs x.num.natAbs).length):smlV x=x.num∧x.den=1:=by
 have a:=(Ng x).1 (by omega)
 exact⟨by unfold smlV;rw[if_pos ⟨a,by omega⟩],a⟩
theorem Lv{x:Rat}(h0: ¬0<(denL x.den).length)(h1: ¬1<(limbs x.num.natAbs).length)(h:(limbs x.num.natAbs).length=0):0=smlV x∧true=smlB x:=by
 obtain⟨a,b⟩:=GQ h0 h1
 have c:=nl0.1 h
 refine⟨by rw[a];omega,?_⟩
 symm;apply decide_eq_true;exact⟨b,by omega⟩
theorem J1{n:Nat}(h1: ¬1<(limbs n).length)(h: ¬(limbs n).length=0):(limbs n).getD 0 0=n:=by
 have e:=vf (x:=n) (by omega)
 rw[show(limbs n).length=1 by omega]at e
 simp[valL]at e;simpa using e.symm
theorem Lx{x:Rat}(h0: ¬0<(denL x.den).length)(h1: ¬1<(limbs x.num.natAbs).length)(h: ¬(limbs x.num.natAbs).length=0)(hn:x.num<0):
  -(((limbs x.num.natAbs).getD 0 0:Nat):Int)=smlV x∧decide ((limbs x.num.natAbs).getD 0 0<268435456)=smlB x:=by
 obtain⟨a,b⟩:=GQ h0 h1
 rw[J1 h1 h,a]
 exact⟨by omega,by unfold smlB;simp[b]⟩
theorem Ly{x:Rat}(h0: ¬0<(denL x.den).length)(h1: ¬1<(limbs x.num.natAbs).length)(h: ¬(limbs x.num.natAbs).length=0)(hn: ¬x.num<0):
  (((limbs x.num.natAbs).getD 0 0:Nat):Int)=smlV x∧decide ((limbs x.num.natAbs).getD 0 0<268435456)=smlB x:=by
 obtain⟨a,b⟩:=GQ h0 h1
 rw[J1 h1 h,a]
 exact⟨by omega,by unfold smlB;simp[b]⟩
theorem RB(x:Rat):(smlV x).natAbs≤4294967295:=by
 unfold smlV;split
 ·rename_i h
  by_cases e:(limbs x.num.natAbs).length=0
  ·have:=nl0.1 e;omega
  ·have e2:=J1 (n:=x.num.natAbs) (by omega) e
   have:=q8 x.num.natAbs 0
   omega
 ·decide
theorem jx{x:Rat}(h:smlB x=true):x=((smlV x:Int):Rat)∧(smlV x).natAbs<268435456:=by
 obtain⟨a,b⟩:=of_decide_eq_true h
 have c:smlV x=x.num:=by unfold smlV;rw[if_pos ⟨a,AP (k:=1) (by omega)⟩]
 rw[c]
 exact⟨Rat.ext rfl a,b⟩
theorem Gf{a b:Int}(ha:a.natAbs<268435456)(hb:b.natAbs<268435456):qw .mul .i64 a b (a*b)∧(a*b).natAbs≤72057594037927936:=by
 have h:(a*b).natAbs≤268435456*268435456:=by rw[Int.natAbs_mul];exact Nat.mul_le_mul (by omega) (by omega)
 exact⟨zN rfl (Nat.le_trans h (by decide)),by omega⟩
def sgnZ(z:Int):Int:=if 0<z then 1 else if z<0 then-1 else 0
theorem q0k(z:Int):(sgnZ z).natAbs≤1:=by unfold sgnZ;(repeat' split)<;>decide
theorem Rx(s d:Int):sgnZ (s-d)=cmpQ (s:Rat) (d:Rat):=by
 unfold sgnZ cmpQ
 have h1:((s:Rat)<(d:Rat))↔s<d:=Rat.intCast_lt_intCast
 have h2:((s:Rat)=(d:Rat))↔s=d:=by simp
 by_cases a:s<d
 ·rw[if_neg (by omega),if_pos (by omega),if_pos (h1.2 a)]
 ·rw[if_neg (fun e=>a (h1.1 e))]
  by_cases b:s=d
  ·rw[if_neg (by omega),if_neg (by omega),if_pos (h2.2 b)]
  ·rw[if_pos (by omega),if_neg (fun e=>b (h2.1 e))]
theorem MA{q:V3×Rat}{p:V3}(a0:smlB q.1.1=true)(b0:smlB p.1=true)(a1:smlB q.1.2.1=true)(b1:smlB p.2.1=true)(a2:smlB q.1.2.2=true)(b2:smlB p.2.2=true)(d:smlB q.2=true):
  sgnZ (0+smlV q.1.1*smlV p.1+smlV q.1.2.1*smlV p.2.1+smlV q.1.2.2*smlV p.2.2-smlV q.2)=cmpQ (dotQ q.1 p) q.2:=by
 rw[Rx,←(jx d).1]
 congr 1
 unfold dotQ
 rw[Int.zero_add,Rat.intCast_add,Rat.intCast_add,Rat.intCast_mul,Rat.intCast_mul,Rat.intCast_mul,←(jx a0).1,←(jx b0).1,←(jx a1).1,←(jx b1).1,←(jx a2).1,←(jx b2).1]
abbrev Nv:FI:=⟨204,[(.pr .rat (.pr .rat .rat)),(.pr .rat (.pr .rat .rat)),(.fn 71)],[(.p (.n 4294967296) (.p (.n 4294967296) (.n 4294967296))),(.p (.n 4294967296) (.p (.n 4294967296) (.n 4294967296))),.u],fun _=>[],fun b z=>(fun(p:Rat×Rat×Rat)(q:Rat×Rat×Rat)(u:Unit)=> .c (.agg [.dt tV3 (bV3 ((b0 b).mx+(b1 b).mx+1)) (subV p q)])) z.1 z.2.1 z.2.2⟩
theorem Nw:Nv.OK Tryz.prog:=mkF hmix 24 Tryz.func204 rfl rfl (by decide) [(71,.c FU)] (fun(p:Rat×Rat×Rat)(q:Rat×Rat×Rat)(u:Unit) b hx hp=>zu (FY (Bnds.h3 hx).1 (Bnds.h3 hx).2.1)) (fun(p:Rat×Rat×Rat)(q:Rat×Rat×Rat)(u:Unit) hx hp=>by
 refine⟨.nil,kcast (by kernel_rfl) ((rfl:(p.1-q.1,p.2.1-q.2.1,p.2.2-q.2.2)=subV p q))⟩)
abbrev Nu:Ctr Tryz.prog:=FI.c Nw
abbrev Xa:FI:=⟨128,[(.pr .rat (.pr .rat .rat)),(.pr .rat (.pr .rat .rat))],[(.p (.n 4294967296) (.p (.n 4294967296) (.n 4294967296))),(.p (.n 4294967296) (.p (.n 4294967296) (.n 4294967296)))],fun _=>[],fun b z=>(fun(p:Rat×Rat×Rat)(q:Rat×Rat×Rat)=> .c (.agg [.dt tV3 (bV3 ((b0 b).mx+(b1 b).mx+1)) (subV p q)])) z.1 z.2⟩
theorem Xb:Xa.OK Tryz.prog:=mkF hmix 8 Tryz.func128 rfl rfl (by decide) [] (fun(p:Rat×Rat×Rat)(q:Rat×Rat×Rat) b hx hp=>zu (FY (Bnds.h2 hx).1 (Bnds.h2 hx).2)) (fun(p:Rat×Rat×Rat)(q:Rat×Rat×Rat) hx hp=>by
 refine⟨.h 1 2 (.c Nu) (.nil),kcast (by kernel_rfl) ((Eq.refl (subV p q)))⟩)
abbrev Ad:Ctr Tryz.prog:=FI.c Xb
abbrev Xc:FI:=⟨25,[(.pr .rat (.pr .rat .rat)),(.pr .rat (.pr .rat .rat))],[(.p (.n 4294967296) (.p (.n 4294967296) (.n 4294967296))),(.p (.n 4294967296) (.p (.n 4294967296) (.n 4294967296)))],fun _=>[],fun b z=>(fun(p:Rat×Rat×Rat)(q:Rat×Rat×Rat)=> .c (.agg [.dt tV3 (bV3 ((b0 b).mx+(b1 b).mx+1)) (subV p q)])) z.1 z.2⟩
theorem Xd:Xc.OK Tryz.prog:=mkF hmix 20 Tryz.func25 rfl rfl (by decide) [(28,.c Dy)] (fun(p:Rat×Rat×Rat)(q:Rat×Rat×Rat) b hx hp=>zu (FY (Bnds.h2 hx).1 (Bnds.h2 hx).2)) (fun(p:Rat×Rat×Rat)(q:Rat×Rat×Rat) hx hp=>by
 refine⟨.nil,kcast (by kernel_rfl) ((rfl:(p.1-q.1,p.2.1-q.2.1,p.2.2-q.2.2)=subV p q))⟩)
abbrev BN:Ctr Tryz.prog:=FI.c Xd
abbrev RO:FI:=⟨69,[(.pr (.pr .rat (.pr .rat .rat)) .rat),(.pr .rat (.pr .rat .rat))],[(.p (.p (.n 16777216) (.p (.n 16777216) (.n 16777216))) (.n 16777216)),(.p (.n 67108864) (.p (.n 67108864) (.n 67108864)))],fun _=>[],fun b z=>(fun(q:(Rat×Rat×Rat)×Rat)(p:Rat×Rat×Rat)=> .c (.one (.dt (.int .i64) (.n 1) (cmpQ (dotQ q.1 p) q.2)))) z.1 z.2⟩
theorem RP:RO.OK Tryz.prog:=mkF hmix 12 Tryz.func69 rfl rfl (by decide) [(72,.c Ac),(133,.c BE)] (fun(q:(Rat×Rat×Rat)×Rat)(p:Rat×Rat×Rat) b hx hp=>qa (wg _ _) rfl) (fun(q:(Rat×Rat×Rat)×Rat)(p:Rat×Rat×Rat) hx hp=>by
 refine⟨.nil,kcast (by kernel_rfl) ((Eq.refl (cmpQ (dotQ q.1 p) q.2)))⟩)
abbrev JL:Ctr Tryz.prog:=FI.c RP
abbrev RR:FI:=⟨85,[(.pr (.pr .rat (.pr .rat .rat)) .rat),(.pr .rat (.pr .rat .rat))],[(.p (.p (.n 16777216) (.p (.n 16777216) (.n 16777216))) (.n 16777216)),(.p (.n 67108864) (.p (.n 67108864) (.n 67108864)))],fun _=>[],fun b z=>(fun(q:(Rat×Rat×Rat)×Rat)(p:Rat×Rat×Rat)=> .c (.one (.dt (.int .i64) (.n 1) (cmpQ (dotQ q.1 p) q.2)))) z.1 z.2⟩
theorem RS:RR.OK Tryz.prog:=mkF hmix 13 Tryz.func85 rfl rfl (by decide) [(16,.c H4),(28,.c Dy),(33,.c BM)] (fun(q:(Rat×Rat×Rat)×Rat)(p:Rat×Rat×Rat) b hx hp=>qa (wg _ _) rfl) (fun(q:(Rat×Rat×Rat)×Rat)(p:Rat×Rat×Rat) hx hp=>by
 refine⟨.nil,kcast (by kernel_rfl) ((Wx _ _:sgnQ ((dotQ q.1 p) -q.2)=cmpQ (dotQ q.1 p) q.2))⟩)
abbrev RQ:Ctr Tryz.prog:=FI.c RS
abbrev q0u:FI:=⟨137,[(.pr .rat (.pr .rat .rat)),(.pr .rat (.pr .rat .rat)),(.pr .rat (.pr .rat .rat))],[(.p (.n 1048576) (.p (.n 1048576) (.n 1048576))),(.p (.n 1048576) (.p (.n 1048576) (.n 1048576))),(.p (.n 1048576) (.p (.n 1048576) (.n 1048576)))],fun _=>[],fun b z=>(fun(a:Rat×Rat×Rat)(b_:Rat×Rat×Rat)(c:Rat×Rat×Rat)=> .tup [.agg [.dt tPl (.p (bV3 (27*(max (b0 b).mx (max (b1 b).mx (b2 b).mx))+17)) (.n (27*(max (b0 b).mx (max (b1 b).mx (b2 b).mx))+17))) (qd (a,b_,c))],.one (.dt (.int .i64) (.n 9) (thrC a b_ c))]) z.1 z.2.1 z.2.2⟩
theorem q0v:q0u.OK Tryz.prog:=mkF hmix 24 Tryz.func137 rfl rfl (by decide) [(72,.c Ac),(128,.c Ad),(135,.c EW),(136,.c B3)] (fun(a:Rat×Rat×Rat)(b_:Rat×Rat×Rat)(c:Rat×Rat×Rat) b hx hp=>qu (qP (E5 ⟨v7 (Bnds.h3 hx).1 (by omega),v7 (Bnds.h3 hx).2.1 (by omega),v7 (Bnds.h3 hx).2.2 (by omega)⟩)) (qu (qa (q0n _ _ _) rfl) jh)) (fun(a:Rat×Rat×Rat)(b_:Rat×Rat×Rat)(c:Rat×Rat×Rat) hx hp=>by
 refine⟨.nil,kcast (by kernel_rfl) (Sp (decide ((qc (subV b_ a) (subV c a))=(0,0,0))=true) (fun h1=>And.intro (RD (of_decide_eq_true h1):((0,0,0),0)=qd (a,b_,c)) ((if_pos (of_decide_eq_true h1)).symm:9=thrC a b_ c)) (fun h2=>And.intro (rfl:(qc (subV b_ a) (subV c a),dotQ (qc (subV b_ a) (subV c a)) a)=qd (a,b_,c)) ((if_neg (fun e=>h2 (decide_eq_true e))).symm:0=thrC a b_ c)))⟩)
abbrev q0t:Ctr Tryz.prog:=FI.c q0v
abbrev X8:FI:=⟨65,[(.pr .rat (.pr .rat .rat)),(.pr .rat (.pr .rat .rat)),(.pr .rat (.pr .rat .rat))],[(.p (.n 1048576) (.p (.n 1048576) (.n 1048576))),(.p (.n 1048576) (.p (.n 1048576) (.n 1048576))),(.p (.n 1048576) (.p (.n 1048576) (.n 1048576)))],fun _=>[],fun b z=>(fun(a:Rat×Rat×Rat)(b_:Rat×Rat×Rat)(p:Rat×Rat×Rat)=> .c (.agg [.dt .rat (.n (168*max (b0 b).mx (max (b1 b).mx (b2 b).mx)+116)) (segQ a b_ p)])) z.1 z.2.1 z.2.2⟩
theorem X9:X8.OK Tryz.prog:=mkF hmix 42 Tryz.func65 rfl rfl (by decide) [(66,.c Df),(72,.c Ac),(73,.c Jt),(128,.c Ad),(129,.c LB),(130,.c Dv),(131,.c FR),(132,.c OS)] (fun(a:Rat×Rat×Rat)(b_:Rat×Rat×Rat)(p:Rat×Rat×Rat) b hx hp=>qP (q28 (Bnds.h3 hx).1 (Bnds.h3 hx).2.1 (Bnds.h3 hx).2.2)) (fun(a:Rat×Rat×Rat)(b_:Rat×Rat×Rat)(p:Rat×Rat×Rat) hx hp=>by
 refine⟨.nil,kcast (by kernel_rfl) (Sp (quoC (dotQ (subV b_ a) (subV b_ a))=0) (fun h1=>((Rv a b_ p (OE.1 h1)).symm:dotQ (subV p (addV a (qI (maxQ 0 (minQ ((1:Int):Rat) ((dotQ (subV p a) (subV b_ a))/(dotQ (subV b_ a) (subV b_ a))))) (subV b_ a)))) (subV p (addV a (qI (maxQ 0 (minQ ((1:Int):Rat) ((dotQ (subV p a) (subV b_ a))/(dotQ (subV b_ a) (subV b_ a))))) (subV b_ a))))=segQ a b_ p)) (fun h2=>((Ru a b_ p (Decidable.of_not_not (fun e=>h2 (OE.2 e)))).symm:dotQ (subV p a) (subV p a)=segQ a b_ p)))⟩)
abbrev X7:Ctr Tryz.prog:=FI.c X9
abbrev MJ:FI:=⟨70,[(.pr (.pr .rat (.pr .rat .rat)) .rat),(.pr .rat (.pr .rat .rat)),(.pr .rat (.pr .rat .rat))],[(.p (.p (.n 16777216) (.p (.n 16777216) (.n 16777216))) (.n 16777216)),(.p (.n 1048576) (.p (.n 1048576) (.n 1048576))),(.p (.n 1048576) (.p (.n 1048576) (.n 1048576)))],fun _=>[],fun b z=>(fun(q:(Rat×Rat×Rat)×Rat)(a:Rat×Rat×Rat)(b_:Rat×Rat×Rat)=> .c (.agg [.dt tPl (.p (bV3 (15*max (b1 b).mx (b2 b).mx+6*(b0 b).mx+11)) (.n (15*max (b1 b).mx (b2 b).mx+6*(b0 b).mx+11))) (upP q a b_)])) z.1 z.2.1 z.2.2⟩
theorem MK:MJ.OK Tryz.prog:=mkF hmix 19 Tryz.func70 rfl rfl (by decide) [(72,.c Ac),(128,.c Ad),(136,.c B3)] (fun(q:(Rat×Rat×Rat)×Rat)(a:Rat×Rat×Rat)(b_:Rat×Rat×Rat) b hx hp=>qP (up_b (Bnds.h3 hx).1 (Bnds.h3 hx).2.1 (Bnds.h3 hx).2.2)) (fun(q:(Rat×Rat×Rat)×Rat)(a:Rat×Rat×Rat)(b_:Rat×Rat×Rat) hx hp=>by
 refine⟨.nil,kcast (by kernel_rfl) ((rfl:(qc (subV b_ a) q.1,dotQ (qc (subV b_ a) q.1) a)=upP q a b_))⟩)
abbrev G4:Ctr Tryz.prog:=FI.c MK
abbrev MM:FI:=⟨62,[(.pr (.pr .rat (.pr .rat .rat)) .rat),(.pr .rat (.pr .rat .rat)),(.pr .rat (.pr .rat .rat))],[(.p (.p (.n 16777216) (.p (.n 16777216) (.n 16777216))) (.n 16777216)),(.p (.n 1048576) (.p (.n 1048576) (.n 1048576))),(.p (.n 1048576) (.p (.n 1048576) (.n 1048576)))],fun _=>[],fun b z=>(fun(q:(Rat×Rat×Rat)×Rat)(a:Rat×Rat×Rat)(b_:Rat×Rat×Rat)=> .c (.agg [.dt tPl (.p (bV3 (15*max (b1 b).mx (b2 b).mx+6*(b0 b).mx+11)) (.n (15*max (b1 b).mx (b2 b).mx+6*(b0 b).mx+11))) (upP q a b_)])) z.1 z.2.1 z.2.2⟩
theorem MN:MM.OK Tryz.prog:=mkF hmix 19 Tryz.func62 rfl rfl (by decide) [(25,.c BN),(33,.c BM),(118,.c B4)] (fun(q:(Rat×Rat×Rat)×Rat)(a:Rat×Rat×Rat)(b_:Rat×Rat×Rat) b hx hp=>qP (up_b (Bnds.h3 hx).1 (Bnds.h3 hx).2.1 (Bnds.h3 hx).2.2)) (fun(q:(Rat×Rat×Rat)×Rat)(a:Rat×Rat×Rat)(b_:Rat×Rat×Rat) hx hp=>by
 refine⟨.nil,kcast (by kernel_rfl) ((rfl:(qc (subV b_ a) q.1,dotQ (qc (subV b_ a) q.1) a)=upP q a b_))⟩)
abbrev ML:Ctr Tryz.prog:=FI.c MN
abbrev TT:FI:=⟨67,[(.pr (.pr .rat (.pr .rat .rat)) (.pr (.pr .rat (.pr .rat .rat)) (.pr .rat (.pr .rat .rat))))],[(.p (.p (.n 1048576) (.p (.n 1048576) (.n 1048576))) (.p (.p (.n 1048576) (.p (.n 1048576) (.n 1048576))) (.p (.n 1048576) (.p (.n 1048576) (.n 1048576)))))],fun _=>[],fun b z=>(fun(t:(Rat×Rat×Rat)×(Rat×Rat×Rat)×Rat×Rat×Rat)=> .c (.one (.dt .bool .u (decide (qz t=(0,0,0)))))) z⟩
theorem TU:TT.OK Tryz.prog:=mkF hmix 15 Tryz.func67 rfl rfl (by decide) [(128,.c Ad),(135,.c EW),(136,.c B3)] (fun(t:(Rat×Rat×Rat)×(Rat×Rat×Rat)×Rat×Rat×Rat) b hx hp=>qa trivial rfl) (fun(t:(Rat×Rat×Rat)×(Rat×Rat×Rat)×Rat×Rat×Rat) hx hp=>by
 refine⟨.nil,kcast (by kernel_rfl) ((rfl:decide ((qc (subV t.2.1 t.1) (subV t.2.2 t.1))=(0,0,0))=decide (qz t=(0,0,0))))⟩)
abbrev Gr:Ctr Tryz.prog:=FI.c TU
abbrev TV:FI:=⟨58,[(.pr (.pr .rat (.pr .rat .rat)) (.pr (.pr .rat (.pr .rat .rat)) (.pr .rat (.pr .rat .rat))))],[(.p (.p (.n 1048576) (.p (.n 1048576) (.n 1048576))) (.p (.p (.n 1048576) (.p (.n 1048576) (.n 1048576))) (.p (.n 1048576) (.p (.n 1048576) (.n 1048576)))))],fun _=>[],fun b z=>(fun(t:(Rat×Rat×Rat)×(Rat×Rat×Rat)×Rat×Rat×Rat)=> .c (.one (.dt .bool .u (decide (qz t=(0,0,0)))))) z⟩
theorem TW:TV.OK Tryz.prog:=mkF hmix 15 Tryz.func58 rfl rfl (by decide) [(25,.c BN),(118,.c B4),(126,.c JO)] (fun(t:(Rat×Rat×Rat)×(Rat×Rat×Rat)×Rat×Rat×Rat) b hx hp=>qa trivial rfl) (fun(t:(Rat×Rat×Rat)×(Rat×Rat×Rat)×Rat×Rat×Rat) hx hp=>by
 refine⟨.nil,kcast (by kernel_rfl) ((rfl:decide ((qc (subV t.2.1 t.1) (subV t.2.2 t.1))=(0,0,0))=decide (qz t=(0,0,0))))⟩)
abbrev KP:Ctr Tryz.prog:=FI.c TW
abbrev O1:FI:=⟨68,[(.pr (.pr .rat (.pr .rat .rat)) (.pr (.pr .rat (.pr .rat .rat)) (.pr .rat (.pr .rat .rat))))],[(.p (.p (.n 1048576) (.p (.n 1048576) (.n 1048576))) (.p (.p (.n 1048576) (.p (.n 1048576) (.n 1048576))) (.p (.n 1048576) (.p (.n 1048576) (.n 1048576)))))],fun _=>[],fun b z=>(fun(t:(Rat×Rat×Rat)×(Rat×Rat×Rat)×Rat×Rat×Rat)=> .c (.agg [.dt tPl (.p (bV3 (27*(b0 b).mx+17)) (.n (27*(b0 b).mx+17))) (qd t)])) z⟩
theorem O2:O1.OK Tryz.prog:=mkF hmix 16 Tryz.func68 rfl rfl (by decide) [(137,.c q0t)] (fun(t:(Rat×Rat×Rat)×(Rat×Rat×Rat)×Rat×Rat×Rat) b hx hp=>qP (E5 (Bnds.h1 hx).t3)) (fun(t:(Rat×Rat×Rat)×(Rat×Rat×Rat)×Rat×Rat×Rat) hx hp=>by
 refine⟨.nil,kcast (by kernel_rfl) ((rfl:qd (t.1,t.2.1,t.2.2)=qd t))⟩)
abbrev Hv:Ctr Tryz.prog:=FI.c O2
abbrev O4:FI:=⟨59,[(.pr (.pr .rat (.pr .rat .rat)) (.pr (.pr .rat (.pr .rat .rat)) (.pr .rat (.pr .rat .rat))))],[(.p (.p (.n 1048576) (.p (.n 1048576) (.n 1048576))) (.p (.p (.n 1048576) (.p (.n 1048576) (.n 1048576))) (.p (.n 1048576) (.p (.n 1048576) (.n 1048576)))))],fun _=>[],fun b z=>(fun(t:(Rat×Rat×Rat)×(Rat×Rat×Rat)×Rat×Rat×Rat)=> .c (.agg [.dt tPl (.p (bV3 (27*(b0 b).mx+17)) (.n (27*(b0 b).mx+17))) (qd t)])) z⟩
theorem O5:O4.OK Tryz.prog:=mkF hmix 21 Tryz.func59 rfl rfl (by decide) [(25,.c BN),(33,.c BM),(118,.c B4)] (fun(t:(Rat×Rat×Rat)×(Rat×Rat×Rat)×Rat×Rat×Rat) b hx hp=>qP (E5 (Bnds.h1 hx).t3)) (fun(t:(Rat×Rat×Rat)×(Rat×Rat×Rat)×Rat×Rat×Rat) hx hp=>by
 refine⟨.nil,kcast (by kernel_rfl) ((rfl:(qc (subV t.2.1 t.1) (subV t.2.2 t.1),dotQ (qc (subV t.2.1 t.1) (subV t.2.2 t.1)) t.1)=qd t))⟩)
abbrev O3:Ctr Tryz.prog:=FI.c O5
abbrev TC:FI:=⟨17,[(.pr (.pr .rat (.pr .rat .rat)) (.pr (.pr .rat (.pr .rat .rat)) (.pr .rat (.pr .rat .rat)))),(.pr .rat (.pr .rat .rat))],[(.p (.p (.n 65536) (.p (.n 65536) (.n 65536))) (.p (.p (.n 65536) (.p (.n 65536) (.n 65536))) (.p (.n 65536) (.p (.n 65536) (.n 65536))))),(.p (.n 65536) (.p (.n 65536) (.n 65536)))],fun _=>[],fun b z=>(fun(t:(Rat×Rat×Rat)×(Rat×Rat×Rat)×Rat×Rat×Rat)(p:Rat×Rat×Rat)=> .c (.agg [.dt .rat (.n (168*max (b0 b).mx (b1 b).mx+116)) (vm t p)])) z.1 z.2⟩
theorem TD:TC.OK Tryz.prog:=mkF hmix 77 Tryz.func17 rfl rfl (by decide) [(65,.c X7),(66,.c Df),(67,.c Gr),(68,.c Hv),(69,.c JL),(70,.c G4),(71,.c FU),(72,.c Ac),(73,.c Jt),(74,.c FT)] (fun(t:(Rat×Rat×Rat)×(Rat×Rat×Rat)×Rat×Rat×Rat)(p:Rat×Rat×Rat) b hx hp=>qP (XW (Bnds.h2 hx).1 (Bnds.h2 hx).2)) (fun(t:(Rat×Rat×Rat)×(Rat×Rat×Rat)×Rat×Rat×Rat)(p:Rat×Rat×Rat) hx hp=>by
 refine⟨.nil,kcast (by kernel_rfl) (Sp (decide (qz t=(0,0,0))=true) (fun h1=>(Nk (of_decide_eq_true h1):minQ (minQ (segQ t.1 t.2.1 p) (segQ t.2.1 t.2.2 p)) (segQ t.2.2 t.1 p)=vm t p)) (fun h2=>Sp (0<cmpQ (dotQ ((upP (qd t) t.1 t.2.1).1) p) ((upP (qd t) t.1 t.2.1).2)) (fun h3=>(C0 (fun e=>h2 (decide_eq_true e)) (.inl h3):minQ (minQ (segQ t.1 t.2.1 p) (segQ t.2.1 t.2.2 p)) (segQ t.2.2 t.1 p)=vm t p)) (fun h4=>Sp (0<cmpQ (dotQ ((upP (qd t) t.2.1 t.2.2).1) p) ((upP (qd t) t.2.1 t.2.2).2)) (fun h5=>(C0 (fun e=>h2 (decide_eq_true e)) (.inr (.inl h5)):minQ (minQ (segQ t.1 t.2.1 p) (segQ t.2.1 t.2.2 p)) (segQ t.2.2 t.1 p)=vm t p)) (fun h6=>Sp (0<cmpQ (dotQ ((upP (qd t) t.2.2 t.1).1) p) ((upP (qd t) t.2.2 t.1).2)) (fun h7=>(C0 (fun e=>h2 (decide_eq_true e)) (.inr (.inr h7)):minQ (minQ (segQ t.1 t.2.1 p) (segQ t.2.1 t.2.2 p)) (segQ t.2.2 t.1 p)=vm t p)) (fun h8=>(Nl (fun e=>h2 (decide_eq_true e)) h4 h6 h8:(((dotQ ((qd t).1) p) -((qd t).2))*((dotQ ((qd t).1) p) -((qd t).2)))/(dotQ ((qd t).1) ((qd t).1))=vm t p))))))⟩)
abbrev TB:Ctr Tryz.prog:=FI.c TD
section
section
variable {P:Program}
def HV(P:Program)(t:TypeId):Option (Nat×Nat):=
 match P.underlying t with
 |some (.array n e)=>match P.info? e with
  |some i=>some (n,i.size)
  |none=>none
 |_=>none
theorem LN{t:TypeId}{n s:Nat}(h:HV P t=some (n,s)): ∃e i,P.underlying t=some (.array n e)∧P.info? e=some i∧i.size=s:=by
 unfold HV at h
 split at h
 ·rename_i n' e he
  split at h
  ·rename_i i hi
   simp only[Option.some.injEq,Prod.mk.injEq]at h;obtain⟨rfl,rfl⟩:=h
   exact⟨e,i,he,hi,rfl⟩
  ·cases h
 ·cases h
def wL(t:Ty)(b:Bd):Nat→List WA→Option (List t.den)
 |0,[]=>some []
 |0,_::_=>none
 |n+1,l=>match cutW 400 l t.w with
  |some (m,r)=>match reify t m with
   |some (b',x,[])=>bif b'.le b then(match wL t b n r with|some xs=>some (x::xs)|none=>none)else none
   |_=>none
  |none=>none
theorem Bf{t:Ty}{b:Bd}: ∀{n:Nat}{l:List WA}{xs:List t.den},wL t b n l=some xs→AImps (WAs.exp l) (allA t xs)∧xs.length=n∧(WAs.ok l→ ∀x∈xs,Bnd t b x)
 |0,[],xs,h=>by simp[wL]at h;subst h;exact⟨trivial,rfl,fun _ x hx=>by simp at hx⟩
 |0,_::_,_,h=>by simp[wL]at h
 |n+1,l,xs,h=>by
  simp only[wL]at h
  cases hc:cutW 400 l t.w with
  |none=>rw[hc]at h;cases h
  |some q=>
   obtain⟨m,r⟩:=q
   rw[hc]at h;simp only at h
   obtain⟨c1,c2,c3⟩:=z8 hc
   split at h
   ·rename_i b' x hr
    cases hb:b'.le b with
    |false=>rw[hb]at h;cases h
    |true=>
     rw[hb]at h;simp only[cond_true]at h
     cases hx:wL t b n r with
     |none=>rw[hx]at h;cases h
     |some ys=>
      rw[hx]at h;simp at h;subst h
      obtain⟨m',e1,i1,o1⟩:=jt hr
      have e1:WAs.exp m=m':=by rw[e1];simp[WAs.exp]
      subst e1
      obtain⟨i2,l2,o2⟩:=Bf hx
      refine⟨by rw[c1];exact vR i1 i2,by simp[l2],fun hk y hy=>?_⟩
      rcases List.mem_cons.1 hy with rfl|hy
      ·exact Bnd.mono hb (o1 (c3 hk).1).1
      ·exact o2 (c3 hk).2 y hy
   ·cases h
theorem Ti{n:Nat}{Ks:List Nat}{st:WSt}(hk:st.Ok){k:Nat}{B B':WB}(hL:look st.L k=some B)(hi:BImp k B.exp B'.exp)(hB:B'.ok):
  EntW n Ks st ⟨st.rm,st.m,st.rL,(k,B')::st.L⟩∧(⟨st.rm,st.m,st.rL,(k,B')::st.L⟩:WSt).Ok:=by
 have hlk: ∀q b',qe ⟨st.rm,st.m,st.rL,(k,B')::st.L⟩ q=some b'→(q=k∧b'=B')∨(q≠k∧qe st q=some b'):=by
  intro q b' h
  unfold qe at h
  simp only[look]at h
  by_cases e:k=q
  ·subst e;simp at h;exact .inl ⟨rfl,h.symm⟩
  ·rw[beqF e]at h;exact .inr ⟨fun e'=>e e'.symm,h⟩
 have hlB:qe st k=some B:=by unfold qe;rw[hL]
 refine⟨EA (fun t v' h=>⟨v',h,fun _ _ _ h=>h⟩) fun q b' h=>?_,fun t v h=>hk.m t v h,fun q b' h=>?_,hk.dm,fun q hq=>?_⟩
 ·rcases hlk q b' h with⟨rfl,rfl⟩|⟨_,h⟩
  ·exact⟨B,hlB,hi⟩
  ·exact⟨b',h,fun _ _ _ h=>h⟩
 ·rcases hlk q b' h with⟨rfl,rfl⟩|⟨_,h⟩
  ·exact hB
  ·exact hk.l q b' h
 ·have h0:=hk.dl q hq
  have hne:k≠q:=fun e=>by subst e;rw[h0]at hL;cases hL
  show look ((k,B')::st.L) q=none
  simp only[look,beqF hne,cond_false];exact h0
theorem NQ{α:Type}{l:List (Nat×α)}{k q:Nat}(h:k≠q):look (l.filter fun p=>!Nat.beq p.1 k) q=look l q:=by
 induction l with
 |nil=>rfl
 |cons p r ih=>
  obtain⟨a,v⟩:=p
  simp only[List.filter_cons]
  by_cases e:a=k
  ·subst e
   rw[if_neg (by simp),ih];simp only[look,beqF h,cond_false]
  ·rw[if_pos (by rw[beqF e];rfl)]
   simp only[look,ih]
def cpyL{α:Type}(l:List α)(lo lo2 m:Nat):List α:=l.take lo++((l.drop lo2).take m++l.drop (lo+m))
theorem PO(t:Ty)(l:List t.den)(lo lo2 m:Nat)(h2:lo2+m≤l.length):spl (allA t l) (lo*t.w) (((allA t l).drop (lo2*t.w)).take (m*t.w))=allA t (cpyL l lo lo2 m):=by
 have e:((allA t l).drop (lo2*t.w)).take (m*t.w)=allA t ((l.drop lo2).take m):=by rw[Az,AA]
 unfold spl cpyL
 have hl:((l.drop lo2).take m).length=m:=by rw[List.length_take,List.length_drop];omega
 rw[e,wc,wc,AA,jw,hl,←Nat.add_mul,Az]
theorem PP{α:Type}{l:List α}{lo lo2 m:Nat}{x:α}(h:x∈cpyL l lo lo2 m):x∈l:=by
 unfold cpyL at h
 rcases List.mem_append.1 h with h|h
 ·exact List.mem_of_mem_take h
 ·rcases List.mem_append.1 h with h|h
  ·exact List.mem_of_mem_drop (List.mem_of_mem_take h)
  ·exact List.mem_of_mem_drop h
theorem Step.same{w:World}{H:Heap}{β:Bm}(k:Nat)(h:Heap.On H w):Step w H β [k] [] [] w H β:=
 ⟨rfl,rfl,rfl,Nat.le_refl _,fun _ _ _=>rfl,Heap.Le.refl _,fun b hb=> .inl hb,h,fun _ _=>rfl,fun k hk=>by simp at hk,fun k hk=>by simp at hk⟩
theorem q1t{t u ty:TypeId}{x y:Operand}{k off off2 lo lo2 n1 n2 es bb:Nat}{cs:List Atom}(hb:elB P t=some (es,bb))(hcs:off+n1*es≤cs.length)(hcs2:off2+n2*es≤cs.length):
  OpOk P (.call {callee:= .builtin .copy,args:= #[x,y],argTypes:= #[t,u]}) ty [(x,.c (.one (.so k off lo n1))),(y,.c (.one (.so k off2 lo2 n2)))] [(k,.grow es cs)] (vInt .i64 ((min n2 n1:Nat):Int)) [(k,some (.grow es (spl cs off ((cs.drop off2).take (min n2 n1*es)))))]:=by
 intro dst pos after guard a w H β K Q hins hkin _ hon hK
 have hx:=hins _ List.mem_cons_self
 have hy:=hins (y,.c (.one (.so k off2 lo2 n2))) (by simp)
 simp only at hx hy
 obtain⟨hrep,hown⟩:=hkin _ List.mem_cons_self
 simp only at hrep hown
 obtain⟨e,i,h1,h2,rfl,rfl⟩:=wi hb
 have hexec: ∀{p1 p2:Option Addr}{c1 c2:Nat}{vs:Array Value}{w':World},a.eval x= .slice p1 n1 c1→a.eval y= .slice p2 n2 c2→(Builtin.firstCells i.size (Nat.min n2 n1) (.slice p2 n2 c2)).run P w= .ok vs w→
   ((match p1 with|some p=>(storeCells p vs.toList).run P w|none=> .ok () w)= .ok () w')→
   (execOp a.eval ⟨dst,.call {callee:= .builtin .copy,args:= #[x,y],argTypes:= #[t,u]},ty,pos,after,guard⟩).run P w= .ok (.value (goInt (Nat.min n2 n1))) w':=by
  intro p1 p2 c1 c2 vs w' ex ey hf hs
  cases p1 with
  |none=>
   simp only[Result.ok.injEq]at hs
   simp only[execOp,resolve,Sem.run_bind,Sem.run_pure,Result.andThen_ok,invoke,builtin,List.map_toArray,List.map_cons,List.map_nil,ex,ey,Builtin.copy_,List.getElem?_toArray,List.getElem?_cons_zero,List.getElem?_cons_succ,qi h1,Builtin.lenOf,qJ h2,hf]
   simp[hs]
  |some p=>
   simp only at hs
   simp only[execOp,resolve,Sem.run_bind,Sem.run_pure,Result.andThen_ok,invoke,builtin,List.map_toArray,List.map_cons,List.map_nil,ex,ey,Builtin.copy_,List.getElem?_toArray,List.getElem?_cons_zero,List.getElem?_cons_succ,qi h1,Builtin.lenOf,qJ h2,hf,hs]
 by_cases hm:n1=0∨n2=0
 ·have hm0:min n2 n1=0:=by omega
  have hm1:Nat.min n2 n1=0:=hm0
  have hx': ∃p c,a.eval x= .slice p n1 c:=by rcases hx with⟨rfl,p,c,h⟩|⟨b,c,_,h⟩<;>exact⟨_,_,h⟩
  have hy': ∃p c,a.eval y= .slice p n2 c:=by rcases hy with⟨rfl,p,c,h⟩|⟨b,c,_,h⟩<;>exact⟨_,_,h⟩
  obtain⟨p1,c1,ex⟩:=hx'
  obtain⟨p2,c2,ey⟩:=hy'
  have hf:(Builtin.firstCells i.size (Nat.min n2 n1) (.slice p2 n2 c2)).run P w= .ok #[] w:=by
   rw[hm1]
   cases p2 with
   |none=>simp[Builtin.firstCells]
   |some p=>simp[Builtin.firstCells,loadCells,loadCellsFrom]
  unfold Oper.wp
  rw[hexec (w':=w) ex ey hf (by cases p1<;>simp[storeCells])]
  refine hK _ w H β ?_ ⟨rfl,rfl⟩ ?_
  ·simpa[kwOf,knOf,kdOf,look]using Step.same k hon
  ·intro k' b1 hb1
   simp only[List.mem_singleton,Prod.mk.injEq,Option.some.injEq]at hb1
   obtain⟨rfl,rfl⟩:=hb1
   have:spl cs off ((cs.drop off2).take (min n2 n1*i.size))=cs:=by rw[hm0];simp[spl]
   rw[this];exact hrep
 ·have hn1:n1≠0:=fun e=>hm (.inl e)
  have hn2:n2≠0:=fun e=>hm (.inr e)
  rcases hx with⟨h,_⟩|⟨b,c,hβ,ex⟩
  ·exact absurd h hn1
  rcases hy with⟨h,_⟩|⟨b',c',hβ',ey⟩
  ·exact absurd h hn2
  rw[hβ]at hβ';cases hβ'
  rcases hrep with⟨hβ',_⟩|⟨b',c',arr,T,hβ',hw,hcap,hle,hsat⟩
  ·rw[hβ]at hβ';cases hβ'
  rw[hβ]at hβ';cases hβ'
  have hmin:Nat.min n2 n1=min n2 n1:=rfl
  have q1:min n2 n1*i.size≤n1*i.size:=Nat.mul_le_mul_right _ (Nat.min_le_right _ _)
  have q2:min n2 n1*i.size≤n2*i.size:=Nat.mul_le_mul_right _ (Nat.min_le_left _ _)
  generalize hM:min n2 n1*i.size=M at*
  have hV:((arr.toList.drop off2).take M).length=M:=by simp;omega
  have hf:(Builtin.firstCells i.size (Nat.min n2 n1) (.slice (some ⟨b,off2,none⟩) n2 (c-lo2))).run P w= .ok ((arr.toList.drop off2).take M).toArray w:=by
   have:=run_loadCells_list (P:=P) w ⟨b,off2,none⟩ ((arr.toList.drop off2).take M) (by
    intro j v hv
    rw[qY,wZ hw]
    have hj:j<M:=by
     rcases Nat.lt_or_ge j M with h'|h'
     ·exact h'
     ·rw[List.getElem?_eq_none (by omega)]at hv;cases hv
    rw[List.getElem?_take_of_lt hj,List.getElem?_drop]at hv
    simpa using hv)
   rw[hV]at this
   simp only[Builtin.firstCells,hmin,hM,this]
  have hs2:Sats β H ((cs.drop off2).take M) ((arr.toList.drop off2).take M):=by
   have:=(hsat.drop off2).take M
   rw[List.drop_take,List.take_take,Nat.min_eq_left (by omega)]at this
   exact this
  obtain⟨w',hrun,hset⟩:=vw (P:=P) ((arr.toList.drop off2).take M) off 0 w arr hw (Sats.oneC hs2) (by rw[hV];omega)
  unfold Oper.wp
  rw[hexec (w':=w') ex ey hf (by simpa using hrun)]
  have hspl:(spl cs off ((cs.drop off2).take M)).length=cs.length:=by simp[spl];omega
  have hsplv:(spl arr.toList off ((arr.toList.drop off2).take M)).length=arr.size:=by simp[spl];omega
  refine hK _ w' H β ?_ ⟨rfl,rfl⟩ ?_
  ·simpa[kwOf,knOf,kdOf,look]using Step.setArr hset hβ (hown b c hβ).1 hon
  ·intro k' b1 hb1
   simp only[List.mem_singleton,Prod.mk.injEq,Option.some.injEq]at hb1
   obtain⟨rfl,rfl⟩:=hb1
   have hat:=hset.at_
   rw[Nat.add_zero]at hat
   refine .inr ⟨b,c,_,T,hβ,hat,by simpa[hsplv]using hcap,by simp[hspl,hsplv];omega,?_⟩
   have h3:=hsat.spl off hs2
   generalize hVV:(arr.toList.drop off2).take M=V at*
   have h4:(spl arr.toList off V).take (spl cs off ((cs.drop off2).take M)).length=spl (arr.toList.take cs.length) off V:=by
    rw[hspl]
    unfold spl
    rw[List.take_append,List.take_append,List.take_take,List.drop_take]
    have e1:min cs.length off=off:=by omega
    have e2:min off cs.length=off:=by omega
    simp[List.length_take]
    have e3:min off arr.size=off:=by omega
    rw[e3]
    have e4:List.take (cs.length-off) V=V:=List.take_of_length_le (by omega)
    rw[e4,e1,List.take_take,e2,Nat.sub_sub]
   simpa[h4]using h3
def gCpy(P:Program):Op→Option Tmp→(Nat→Option WB)→List WV→HR
 | .call {callee:= .builtin .copy,args:=aas,argTypes:=ts},_,bl,[.c (.one (.so k lo n1 w nb)),.c (.one (.so k2 lo2 n2 w2 nb2))]=>match aas.toList,ts.toList,bl k with
  |[_,_],[t,_],some (.gro t' b l)=>match elB P t with
   |some (es,_)=>bif Nat.beq k k2&&(Nat.beq w t'.w&&(Nat.beq w2 t'.w&&Nat.beq es t'.w))then .ok [lo+n1≤l.length,lo2+n2≤l.length] (vN .i64 nb2 (min n2 n1)) [k] [(k,some (.gro t' b (cpyL l lo lo2 (min n2 n1))))]else .bad
   |none=> .bad
  |_,_,_=> .bad
 |_,_,_,_=> .bad
def Fn:Ext P:=⟨gCpy P,by
 intro op dst ty bl vs hl
 unfold gCpy
 split
 ·rename_i aas ts _ _ k lo n1 w nb k2 lo2 n2 w2 nb2
  split
  ·rename_i x y t u t' b l ha ht hbl
   split
   ·rename_i es bb hb
    cases hc:Nat.beq k k2&&(Nat.beq w t'.w&&(Nat.beq w2 t'.w&&Nat.beq es t'.w))with
    |false=>exact trivial
    |true=>
     simp only[Bool.and_eq_true]at hc
     obtain⟨q1,q2,q3,q4⟩:=hc
     have q1:=Nat.eq_of_beq_eq_true q1;have q2:=Nat.eq_of_beq_eq_true q2;have q3:=Nat.eq_of_beq_eq_true q3;have q4:=Nat.eq_of_beq_eq_true q4
     subst q1 q2 q3 q4
     have:=zT ha;subst this
     have:=zT ht;subst this
     simp only[cond_true]
     intro hv hbo hvc kin hk hkb
     rw[jn hk hkb hbl]
     have h1:lo+n1≤l.length:=hvc _ List.mem_cons_self
     have h2:lo2+n2≤l.length:=hvc (lo2+n2≤l.length) (by simp)
     have hn:n2≤nb2:=(hv (.c (.one (.so k lo2 n2 t'.w nb2))) (by simp)).1
     refine⟨?_,⟨show min n2 n1≤nb2 by omega,rfl⟩,jo (show∀z∈cpyL l lo lo2 (min n2 n1),Bnd t' b z from fun z hz=>hbo k _ hbl z (PP hz))⟩
     show OpOk P _ _ [(x,_),(y,_)] [(k,.grow t'.w (allA t' l))] (vInt .i64 ((min n2 n1:Nat):Int)) [(k,some (.grow t'.w (allA t' (cpyL l lo lo2 (min n2 n1)))))]
     rw[←PO t' l lo lo2 (min n2 n1) (by omega)]
     exact q1t hb (by rw[jw,←Nat.add_mul];exact Nat.mul_le_mul_right _ h1) (by rw[jw,←Nat.add_mul];exact Nat.mul_le_mul_right _ h2)
   ·exact trivial
  ·exact trivial
 ·exact trivial⟩
end
end
section
section
variable {P:Program}
def ipV(k:Nat)(t:Ty)(b:Bd)(x:t.den):WV→Option WV
 | .c (.one (.loc k' off))=>bif Nat.beq k' k&&Nat.ble off t.w then some (.c (.one (.ip t b x off)))else none
 |_=>none
theorem Qb{k:Nat}{t:Ty}{b:Bd}{x:t.den}{v v':WV}(h:ipV k t b x v=some v')(hb:Bnd t b x):RelV k (cellsC t x) none v.exp v'.exp∧v'.ok:=by
 unfold ipV at h
 split at h
 ·rename_i k' off
  cases hc:Nat.beq k' k&&Nat.ble off t.w with
  |false=>rw[hc]at h;cases h
  |true=>
   rw[hc]at h
   simp only[cond_true,Option.some.injEq]at h;subst h
   simp only[Bool.and_eq_true]at hc
   have e:=Nat.eq_of_beq_eq_true hc.1;subst e
   have hle:off≤t.w:=Nat.le_of_ble_eq_true hc.2
   refine⟨OW (ZH (m:=t.w-off) (by rw[qM];omega) ?_),hb,rfl⟩
   exact List.take_of_length_le (by rw[List.length_drop,qM];omega)
 ·cases h
def DH(k:Nat)(t:Ty)(b:Bd)(x:t.den)(ts:List Nat):List (Nat×WV)→Option (List (Nat×WV))
 |[]=>some []
 |p::r=>match DH k t b x ts r with
  |none=>none
  |some r'=>bif memN k p.2.ids then(bif memN p.1 ts then(match ipV k t b x p.2 with|some v=>some ((p.1,v)::r')|none=>none)else some r')else some (p::r')
theorem Fp{k:Nat}{t:Ty}{b:Bd}{x:t.den}{ts:List Nat}(hb:Bnd t b x): ∀{m m':List (Nat×WV)},DH k t b x ts m=some m'→(∀p∈m,p.2.ok)→ ∀q∈m',∃p∈m,p.1=q.1∧RelV k (cellsC t x) none p.2.exp q.2.exp∧q.2.ok
 |[],m',h,_,q,hq=>by simp[DH]at h;subst h;simp at hq
 |p::r,m',h,hok,q,hq=>by
  simp only[DH]at h
  cases h1:DH k t b x ts r with
  |none=>rw[h1]at h;cases h
  |some r'=>
   rw[h1]at h;simp only at h
   have ih:=Fp hb h1 (fun p hp=>hok p (List.mem_cons_of_mem _ hp))
   have up: ∀q∈r',∃p'∈p::r,p'.1=q.1∧RelV k (cellsC t x) none p'.2.exp q.2.exp∧q.2.ok:=fun q hq=>by
    obtain⟨p',a,c⟩:=ih q hq;exact⟨p',List.mem_cons_of_mem _ a,c⟩
   cases h2:memN k p.2.ids with
   |false=>
    rw[h2]at h;simp at h;subst h
    rcases List.mem_cons.1 hq with rfl|hq
    ·exact⟨q,List.mem_cons_self,rfl,Ea,hok q List.mem_cons_self⟩
    ·exact up q hq
   |true=>
    rw[h2]at h;simp only[cond_true]at h
    cases h3:memN p.1 ts with
    |false=>rw[h3]at h;simp at h;subst h;exact up q hq
    |true=>
     rw[h3]at h;simp only[cond_true]at h
     split at h
     ·rename_i v hv
      simp only[Option.some.injEq]at h;subst h
      rcases List.mem_cons.1 hq with rfl|hq
      ·obtain⟨q1,q2⟩:=Qb hv hb;exact⟨p,List.mem_cons_self,rfl,q1,q2⟩
      ·exact up q hq
     ·cases h
def Sr(k:Nat)(t:Ty)(b:Bd)(ts:List Nat)(Ks:List Nat)(st:WSt):Option (List Prop×WSt):=
 bif DG Ks st k&&st.L.all (fun p=>Nat.beq p.1 k||!memN k p.2.ids)then(match look st.L k with
  |some (.rig l)=>match reify t l with
   |some (b',x,[])=>bif b'.le b then(match DH k t b x ts st.m with
    |some m'=>some ([],⟨st.rm,m',st.rL,st.L.filter fun p=>!Nat.beq p.1 k⟩)
    |none=>none)else none
   |_=>none
  |_=>none)else none
theorem mem_filt{α:Type}{l:List (Nat×α)}{k:Nat}{q:Nat×α}(h:q∈l.filter fun p=>!Nat.beq p.1 k):q∈l∧q.1≠k:=by
 obtain⟨a,c⟩:=List.mem_filter.1 h
 exact⟨a,fun e=>by subst e;simp at c⟩
def frzP(k:Nat)(t:Ty)(b:Bd)(ts:List Nat):PExt:=⟨Sr k t b ts,by
 intro n Ks st st' vc hk h hvc
 unfold Sr at h
 cases hc:DG Ks st k&&st.L.all (fun p=>Nat.beq p.1 k||!memN k p.2.ids)with
 |false=>rw[hc]at h;cases h
 |true=>
  rw[hc]at h;simp only[cond_true]at h
  rw[Bool.and_eq_true]at hc
  obtain⟨hc,hc6⟩:=hc
  unfold DG at hc
  simp only[Bool.and_eq_true,List.all_eq_true]at hc hc6
  obtain⟨⟨⟨⟨⟨c0,c1⟩,c2⟩,c3⟩,c4⟩,c5⟩:=hc
  split at h
  ·rename_i l hl
   split at h
   ·rename_i b' x hr
    cases hb:b'.le b with
    |false=>rw[hb]at h;cases h
    |true=>
     rw[hb]at h;simp only[cond_true]at h
     split at h
     ·rename_i m' hm
      simp only[Option.some.injEq,Prod.mk.injEq]at h;obtain⟨rfl,rfl⟩:=h
      have hlk:qe st k=some (.rig l):=by unfold qe;rw[hl]
      have hlok:WAs.ok l:=hk.l k _ hlk
      obtain⟨m0,e1,i1,o1⟩:=jt hr
      have e1:WAs.exp l=m0:=by rw[e1];simp[WAs.exp]
      subst e1
      have hbn:Bnd t b x:=Bnd.mono hb (o1 hlok).1
      have hB1:(WB.rig [.dt t b x]).ok:=j9 hbn
      obtain⟨ent1,ok1⟩:=Ti (n:=n) (Ks:=Ks) hk hl (B:= .rig l) (B':= .rig [.dt t b x]) (by
       show BImp k (.rigid (WAs.exp l)) (.rigid (WAs.exp [.dt t b x]))
       rw[jK];exact v9 i1) hB1
      have hmok: ∀p∈st.m,p.2.ok:=fun p hp=>hk.m p.1 p.2 (by unfold qp;rw[jU c1 hp])
      have sm:=Fp hbn hm hmok
      have hM: ∀t' v',qp ⟨st.rm,m',st.rL,st.L.filter fun p=>!Nat.beq p.1 k⟩ t'=some v'→ ∃v,qp st t'=some v∧RelV k (cellsC t x) none v.exp v'.exp∧v'.ok:=by
       intro t' v' hv
       unfold qp at hv
       simp only at hv
       cases hl:look m' t' with
       |some x=>
        rw[hl]at hv;simp at hv;subst hv
        obtain⟨p,hp,e,h1,h2⟩:=sm _ (qA hl)
        have e':p.1=t':=e
        exact⟨p.2,by unfold qp;rw[←e',jU c1 hp],h1,h2⟩
       |none=>
        rw[hl]at hv;simp only at hv
        have h3:qp st t'=some v':=by unfold qp;rw[hk.dm t' (by rw[hv];simp)];exact hv
        exact⟨v',h3,Ea,hk.m t' v' h3⟩
      have hB: ∀q b',qe ⟨st.rm,m',st.rL,st.L.filter fun p=>!Nat.beq p.1 k⟩ q=some b'→q≠k∧qe st q=some b'∧b'.ok:=by
       intro q b' hv
       unfold qe at hv
       simp only at hv
       cases hl:look (st.L.filter fun p=>!Nat.beq p.1 k) q with
       |some y=>
        rw[hl]at hv;simp at hv;subst hv
        have hq:q≠k:=(mem_filt (qA hl)).2
        rw[NQ (fun e=>hq e.symm)]at hl
        have h3:qe st q=some y:=by unfold qe;rw[hl]
        exact⟨hq,h3,hk.l q y h3⟩
       |none=>
        rw[hl]at hv;simp only at hv
        have h3:qe st q=some b':=by unfold qe;rw[hk.dl q (by rw[hv];simp)];exact hv
        have h4:=c5 _ (qA hv)
        simp only[Bool.and_eq_true,Bool.not_eq_true']at h4
        exact⟨fun e=>by subst e;simp at h4,h3,hk.l q b' h3⟩
      have e1L: ∀q,q≠k→qe ⟨st.rm,st.m,st.rL,(k,WB.rig [.dt t b x])::st.L⟩ q=qe st q:=by
       intro q hq
       unfold qe;simp only[look,beqF (fun e=>hq e.symm),cond_false]
      refine⟨Ent.trans ent1 ?_,⟨fun t' v' h=>(hM t' v' h).choose_spec.2.2,fun q b' h=>(hB q b' h).2.2,?_,?_⟩,rfl,rfl⟩
      ·refine IJ (k:=k) (cells:=cellsC t x) (g:=none) c0 (fun k0 hk0=>?_) (.inl ⟨rfl,?_⟩) ?_ ?_
       ·rw[qq]
        by_cases e:k0=k
        ·subst e;unfold qe;simp[look]
        ·rw[e1L k0 e]
         obtain⟨x,hx⟩:=Option.isSome_iff_exists.1 (c3 k0 hk0)
         rw[hx];simp
       ·rw[qq]
        have:qe ⟨st.rm,st.m,st.rL,(k,WB.rig [.dt t b x])::st.L⟩ k=some (.rig [.dt t b x]):=by unfold qe;simp[look]
        rw[this]
        simp only[Option.map_some,WB.exp,jK];rfl
       ·intro t' av' hv
        rw[j6]at hv
        cases hl:qp ⟨st.rm,m',st.rL,st.L.filter fun p=>!Nat.beq p.1 k⟩ t' with
        |none=>rw[hl]at hv;cases hv
        |some v'=>
         rw[hl]at hv;simp at hv;subst hv
         obtain⟨v,h1,h2,_⟩:=hM t' v' hl
         exact⟨v.exp,by rw[j6];show(qp st t').map _=_;rw[h1];rfl,h2⟩
       ·intro q b' hv
        rw[qq]at hv
        cases hl:qe ⟨st.rm,m',st.rL,st.L.filter fun p=>!Nat.beq p.1 k⟩ q with
        |none=>rw[hl]at hv;cases hv
        |some b1=>
         rw[hl]at hv;simp at hv;subst hv
         obtain⟨h0,h1,_⟩:=hB q b1 hl
         exact⟨h0,b1.exp,by rw[qq,e1L q h0,h1];rfl,GK⟩
      ·intro t' ht'
       show look m' t'=none
       refine qS.2 fun q hq e=>?_
       obtain⟨p,hp,e',_⟩:=sm q hq
       exact absurd e (fun e=>(qS.1 (hk.dm t' ht')) p hp (e'.trans e))
      ·intro q hq
       show look (st.L.filter fun p=>!Nat.beq p.1 k) q=none
       exact qS.2 fun q' hq' e=>(qS.1 (hk.dl q hq)) q' (mem_filt hq').1 e
     ·cases h
   ·cases h
  ·cases h⟩
theorem Hb{H:Heap}: ∀{l l':List CAtom}{vs:List Value},AImps (l.map CAtom.up) (l'.map CAtom.up)→CSats H l vs→CSats H l' vs
 |[],[],[],_,_=>trivial
 |a::l,a'::l',v::vs,h,hs=>by
  refine⟨?_,Hb h.2 hs.2⟩
  have h1:(CAtom.up a).sat (fun _=>none) H v:=by cases a<;>exact hs.1
  have h2:=h.1 _ _ _ h1
  cases a'<;>exact h2
 |[],[],_::_,_,hs=>hs.elim
 |_::_,_::_,[],_,hs=>hs.elim
 |[],_::_,_,h,_=>h.elim
 |_::_,[],_,h,_=>h.elim
theorem Q4{t ty:TypeId}{x:Operand}{cells cells':List CAtom}{n s:Nat}(h:HV P t=some (n,s))(hi:AImps (cells.map CAtom.up) (cells'.map CAtom.up)):
  OpOk P (.slice t x none none none) ty [(x,.c (.one (.ptr cells)))] [] (.c (.one (.abs (flP cells' n)))) []:=
 qo fun a w H β hins _ _=>by
  obtain⟨e,i,h1,h2,rfl⟩:=LN h
  obtain⟨b,off,arr,hx,hH,hs⟩:=hins _ List.mem_cons_self
  simp only at hx hs
  have hlen:=w9 hi
  simp only[List.length_map]at hlen
  refine⟨.slice (some ⟨b,off,none⟩) n n,⟨_,n,rfl,Nat.le_refl _,.inr ⟨b,off,arr,rfl,hH,by rw[←hlen];exact Hb hi hs⟩⟩,fun _ _ _ _=>?_⟩
  have hb:(Instr.sliceBounds false n n none none none).run P w= .ok (0,n,n) w:=by simp[Instr.sliceBounds]
  simp only[execOp,hx,Option.map_none,Instr.sliceAt,Sem.run_bind,qi h1,Result.andThen_ok,Instr.sureAddr,Sem.run_pure,hb,qJ h2]
  by_cases e0:n=0
  ·rw[if_pos e0];simp
  ·rw[if_neg e0];simp[qY]
def Ss(P:Program)(t':Ty)(b':Bd):Op→Option Tmp→(Nat→Option WB)→List WV→HR
 | .slice t _ none none none,_,_,[.c (.one (.ip T b x fo))]=>match HV P t with
  |some (n,s)=>bif Nat.beq fo 0&&Nat.beq s t'.w then(match wL t' b' n [.dt T b x]with
   |some xs=> .ok [] (vL t' n b' xs) [] []
   |none=> .bad)else .bad
  |none=> .bad
 |_,_,_,_=> .bad
def vu(t':Ty)(b':Bd):Ext P:=⟨Ss P t' b',by
 intro op dst ty bl vs hl
 unfold Ss
 split
 ·rename_i T b x fo
  split
  ·rename_i n s h
   cases h0:Nat.beq fo 0&&Nat.beq s t'.w with
   |false=>exact trivial
   |true=>
    simp only[Bool.and_eq_true]at h0
    have:=Nat.eq_of_beq_eq_true h0.1;subst this
    simp only[cond_true]
    split
    ·rename_i xs hx
     intro hv _ _ kin hk _
     rw[qf hk]
     obtain⟨i1,i2,i3⟩:=Bf hx
     have hok:Bnd T b x:=(hv _ List.mem_cons_self).1
     have hxs:=i3 (j9 hok)
     rw[jK,ju]at i1
     refine⟨?_,⟨⟨by omega,hxs⟩,rfl⟩,qh⟩
     show OpOk P _ _ _ _ (.c (.one (.abs (flP (allC t' xs) xs.length)))) _
     rw[i2]
     exact Q4 (cells:=(cellsC T x).drop 0) h (by rw[List.drop_zero];exact i1)
    ·exact trivial
  ·exact trivial
 ·exact trivial⟩
end
end
section
section
variable {P:Program}
theorem Ii: ∀{a b:List Atom}(i:Nat),AImps a b→AImps (a.drop i) (b.drop i)
 |a,b,0,h=>h
 |[],[],_+1,_=>trivial
 |_::_,_::_,i+1,h=>Ii i h.2
 |[],_::_,_+1,h=>h.elim
 |_::_,[],_+1,h=>h.elim
theorem Ij: ∀{a b:List Atom}(i:Nat),AImps a b→AImps (a.take i) (b.take i)
 |[],[],0,_=>trivial
 |_::_,_::_,0,_=>trivial
 |[],[],_+1,_=>trivial
 |_::_,_::_,i+1,h=>⟨h.1,Ij i h.2⟩
 |[],_::_,_,h=>h.elim
 |_::_,[],_,h=>h.elim
def gIxA(P:Program):Op→Option Tmp→(Nat→Option WB)→List WV→HR
 | .indexAddr t _ _,_,_,[.c (.one (.loc k off)),.c (.one (.dt (.nat kk) b i))]=>match P.underlying t with
  |some (.array m e)=>match P.info? e with
   |some ie=>bif Nat.beq off 0 then .ok [(show Nat from i)<m] (.c (.one (.el k i 0 ie.size))) [] []else .bad
   |none=> .bad
  |_=> .bad
 |_,_,_,_=> .bad
def zX:Ext P:=⟨gIxA P,by
 intro op dst ty bl vs hl
 unfold gIxA
 split
 ·rename_i t k off kk b i
  split
  ·rename_i m e hu
   split
   ·rename_i ie he
    cases h0:Nat.beq off 0 with
    |false=>exact trivial
    |true=>
     have:=Nat.eq_of_beq_eq_true h0;subst this
     intro hv _ hvc kin hk _
     rw[qf hk]
     have hlt:(show Nat from i)<m:=hvc _ List.mem_cons_self
     refine⟨?_,⟨trivial,rfl⟩,qh⟩
     show OpOk P (.indexAddr _ _ _) ty [(_,.c (.one (.loc k 0))),(_,vInt kk (Int.ofNat i))] [] (.c (.one (.loc k (i*ie.size+0)))) []
     rw[show(show Nat from i)*ie.size+0=0+(Int.ofNat i).toNat*ie.size by simp]
     exact vJ hu he (Int.natCast_nonneg _) (Int.ofNat_lt.2 hlt)
   ·exact trivial
  ·exact trivial
 ·exact trivial⟩
def gLdA(P:Program)(t:Ty)(b:Bd)(n:Nat):Op→Option Tmp→(Nat→Option WB)→List WV→HR
 | .load ty _,_,bl,[.c (.one (.el k i fo w))]=>match bl k,qB P ty with
  |some (.rig l),some (g,s)=>match wL t b n l with
   |some xs=>bif Nat.beq fo 0&&(Nat.beq w t.w&&(Nat.beq s t.w&&beqB g t.agg))&&Nat.blt 0 t.w then .ok [i<n] (.c (mkC t b (gt t xs i))) [k] []else .bad
   |none=> .bad
  |_,_=> .bad
 |_,_,_,_=> .bad
theorem EL{l:List Atom}(h:l.length=1): ∃u,l=[u]:=by
 match l,h with
 |[u],_=>exact⟨u,rfl⟩
def zY(t:Ty)(b:Bd)(n:Nat):Ext P:=⟨gLdA P t b n,by
 intro op dst ty bl vs hl
 unfold gLdA
 split
 ·rename_i ty' x k i fo w
  split
  ·rename_i l g s hbl hs
   split
   ·rename_i xs hx
    cases h0:Nat.beq fo 0&&(Nat.beq w t.w&&(Nat.beq s t.w&&beqB g t.agg))&&Nat.blt 0 t.w with
    |false=>exact trivial
    |true=>
     simp only[Bool.and_eq_true]at h0
     obtain⟨⟨q1,q2,q3,q4⟩,q5⟩:=h0
     have q1:=Nat.eq_of_beq_eq_true q1;have q2:=Nat.eq_of_beq_eq_true q2;have q3:=Nat.eq_of_beq_eq_true q3
     have q5:0<t.w:=by simpa using q5
     subst q1 q2 q3
     intro hv hbo hvc kin hk hkb
     rw[jn hk hkb hbl]
     have hin:i<n:=hvc _ List.mem_cons_self
     obtain⟨i1,i2,i3⟩:=Bf hx
     have hxs:=i3 (hbo k _ hbl)
     have hi:i<xs.length:=by omega
     have hlen:=w9 i1
     have hcut:=Ij t.w (Ii (i*t.w) i1)
     rw[Gc t xs i hi]at hcut
     have hle:(i+1)*t.w≤xs.length*t.w:=Nat.mul_le_mul_right _ hi
     rw[Nat.succ_mul]at hle
     rw[jw]at hlen
     refine⟨?_,Bz (Bnd.gt hxs hi),qh⟩
     have hb:g=t.agg:=by cases g<;>cases h:t.agg<;>simp_all [beqB]
     subst hb
     show OpOk P (.load ty' x) _ [(x,.c (.one (.loc k (i*t.w+0))))] [(k,.rigid (WAs.exp l))] (WV.exp (.c (mkC t b (gt t xs i)))) []
     rw[By,Nat.add_zero]
     cases ha:t.agg with
     |true=>
      rw[ha]at hs
      refine(Ba hs rfl (by omega)).weak ?_ trivial
      unfold argC;rw[ha]
      exact Ca (Ff hcut)
     |false=>
      rw[ha]at hs
      have hl1:(((WAs.exp l).drop (i*t.w)).take t.w).length=1:=by rw[List.length_take,List.length_drop,Ty.w_one ha];rw[Ty.w_one ha]at hle hlen;omega
      obtain⟨u,hu⟩:=EL hl1
      obtain⟨u',hu'⟩:=EL ((w9 hcut).symm.trans hl1)
      rw[hu,hu']at hcut
      have hat:(WAs.exp l)[i*t.w]?=some u:=by
       have h9:((WAs.exp l).drop (i*t.w))[0]?=some u:=by
        have:(((WAs.exp l).drop (i*t.w)).take t.w)[0]?=some u:=by rw[hu];rfl
        rwa [List.getElem?_take_of_lt (by omega)]at this
       simpa using h9
      refine(Bb hs hat).weak ?_ trivial
      unfold argC;rw[ha,hu']
      exact Ca (Fg hcut.1)
   ·exact trivial
  ·exact trivial
 ·exact trivial⟩
end
end
abbrev QY:FI:=⟨248,[.rat],[(.n 68719476736)],fun _=>[],fun b z=>(fun(x:Rat)=> .tup [.one (.dt (.int .i64) (.n 4294967295) (smlV x)),.one (.dt .bool .u (smlB x))]) z⟩
theorem QZ:QY.OK Tryz.prog:=mkF hmix 33 Tryz.func248 rfl rfl (by decide) [] (fun(x:Rat) b hx hp=>qu (qa (RB x) rfl) (qu (qa trivial rfl) jh)) (fun(x:Rat) hx hp=>by
 refine⟨.nil,kcast (by kernel_rfl) (Sp (0<(denL x.den).length) (fun h1=>And.intro ((Cr (.inl h1)).1:0=smlV x) ((Cr (.inl h1)).2:false=smlB x)) (fun h2=>Sp (1<(limbs x.num.natAbs).length) (fun h3=>And.intro ((Cr (.inr h3)).1:0=smlV x) ((Cr (.inr h3)).2:false=smlB x)) (fun h4=>Sp ((limbs x.num.natAbs).length=0) (fun h5=>And.intro ((Lv h2 h4 h5).1:0=smlV x) ((Lv h2 h4 h5).2:true=smlB x)) (fun h6=>I (?_:0<(limbs x.num.natAbs).length) (Sp (x.num<0) (fun h7=>And.intro ((Lx h2 h4 h6 h7).1: -(((limbs x.num.natAbs).getD 0 0:Nat):Int)=smlV x) ((Lx h2 h4 h6 h7).2:decide ((limbs x.num.natAbs).getD 0 0<268435456)=smlB x)) (fun h8=>And.intro ((Ly h2 h4 h6 h8).1:(((limbs x.num.natAbs).getD 0 0:Nat):Int)=smlV x) ((Ly h2 h4 h6 h8).2:decide ((limbs x.num.natAbs).getD 0 0<268435456)=smlB x)))))))⟩<;>omega)
abbrev QX:Ctr Tryz.prog:=FI.c QZ
abbrev VB:FI:=⟨249,[(.int .i64)],[(.n 4611686018427387903)],fun _=>[],fun b z=>(fun(v:Int)=> .c (.one (.dt (.int .i64) (.n 1) (sgnZ v)))) z⟩
theorem VC:VB.OK Tryz.prog:=mkF hmix 9 Tryz.func249 rfl rfl (by decide) [] (fun(v:Int) b hx hp=>qa (q0k v) rfl) (fun(v:Int) hx hp=>by
 refine⟨.nil,kcast (by kernel_rfl) (Sp (0<v) (fun h1=>((if_pos h1).symm:1=sgnZ v)) (fun h2=>Sp (v<0) (fun h3=>(((if_neg h2).trans (if_pos h3)).symm:(-1)=sgnZ v)) (fun h4=>(((if_neg h2).trans (if_neg h4)).symm:0=sgnZ v))))⟩)
abbrev VA:Ctr Tryz.prog:=FI.c VC
theorem nb2{b:Bool}(h: ¬(!b)=true):b=true:=by cases b<;>simp_all
abbrev Vy:FI:=⟨188,[(.pr (.pr .rat (.pr .rat .rat)) .rat),(.pr .rat (.pr .rat .rat))],[(.p (.p (.n 16777216) (.p (.n 16777216) (.n 16777216))) (.n 16777216)),(.p (.n 67108864) (.p (.n 67108864) (.n 67108864)))],fun _=>[],fun b z=>(fun(q:(Rat×Rat×Rat)×Rat)(p:Rat×Rat×Rat)=> .c (.one (.dt (.int .i64) (.n 1) (cmpQ (dotQ q.1 p) q.2)))) z.1 z.2⟩
theorem Vz:Vy.OK Tryz.prog:=mkF hmix 61 Tryz.func188 rfl rfl (by decide) [(69,.c JL),(248,.c QX),(249,.c VA)] (fun(q:(Rat×Rat×Rat)×Rat)(p:Rat×Rat×Rat) b hx hp=>qa (wg _ _) rfl) (fun(q:(Rat×Rat×Rat)×Rat)(p:Rat×Rat×Rat) hx hp=>by
 refine⟨.cond (.nil) (.cond (.nil) (.h 9 3 (.i (.z ((smlV q.1.1)*(smlV p.1)) 72057594037927936)) (.cond (.nil) (.cond (.nil) (.h 9 3 (.i (.z ((smlV q.1.2.1)*(smlV p.2.1)) 72057594037927936)) (.cond (.nil) (.cond (.nil) (.h 9 3 (.i (.z ((smlV q.1.2.2)*(smlV p.2.2)) 72057594037927936)) (.nil))))))))),kcast (by kernel_rfl) (Sp ((!(smlB q.1.1))=true) (fun h1=>(Eq.refl (cmpQ (dotQ q.1 p) q.2))) (fun h2=>Sp ((!(smlB p.1))=true) (fun h3=>(Eq.refl (cmpQ (dotQ q.1 p) q.2))) (fun h4=>have hm0:=(Gf (jx (nb2 h2)).2 (jx (nb2 h4)).2);I (by first|exact hm2.1|exact hm1.1|exact hm0.1:qw .mul .i64 (smlV q.1.1) (smlV p.1) ((smlV q.1.1)*(smlV p.1))) (I (by first|exact hm2.2|exact hm1.2|exact hm0.2:Int.natAbs ((smlV q.1.1)*(smlV p.1))≤72057594037927936) (Sp ((!(smlB q.1.2.1))=true) (fun h5=>(Eq.refl (cmpQ (dotQ q.1 p) q.2))) (fun h6=>Sp ((!(smlB p.2.1))=true) (fun h7=>(Eq.refl (cmpQ (dotQ q.1 p) q.2))) (fun h8=>have hm1:=(Gf (jx (nb2 h6)).2 (jx (nb2 h8)).2);I (by first|exact hm2.1|exact hm1.1|exact hm0.1:qw .mul .i64 (smlV q.1.2.1) (smlV p.2.1) ((smlV q.1.2.1)*(smlV p.2.1))) (I (by first|exact hm2.2|exact hm1.2|exact hm0.2:Int.natAbs ((smlV q.1.2.1)*(smlV p.2.1))≤72057594037927936) (Sp ((!(smlB q.1.2.2))=true) (fun h9=>(Eq.refl (cmpQ (dotQ q.1 p) q.2))) (fun h10=>Sp ((!(smlB p.2.2))=true) (fun h11=>(Eq.refl (cmpQ (dotQ q.1 p) q.2))) (fun h12=>have hm2:=(Gf (jx (nb2 h10)).2 (jx (nb2 h12)).2);I (by first|exact hm2.1|exact hm1.1|exact hm0.1:qw .mul .i64 (smlV q.1.2.2) (smlV p.2.2) ((smlV q.1.2.2)*(smlV p.2.2))) (I (by first|exact hm2.2|exact hm1.2|exact hm0.2:Int.natAbs ((smlV q.1.2.2)*(smlV p.2.2))≤72057594037927936) (Sp ((!(smlB q.2))=true) (fun h13=>(Eq.refl (cmpQ (dotQ q.1 p) q.2))) (fun h14=>(MA (nb2 h2) (nb2 h4) (nb2 h6) (nb2 h8) (nb2 h10) (nb2 h12) (nb2 h14):sgnZ ((((0+((smlV q.1.1)*(smlV p.1)))+((smlV q.1.2.1)*(smlV p.2.1)))+((smlV q.1.2.2)*(smlV p.2.2))) -(smlV q.2))=cmpQ (dotQ q.1 p) q.2)))))))))))))))⟩)
abbrev Vx:Ctr Tryz.prog:=FI.c Vz
section
def fidx(p:Nat→Bool):Nat→Nat→Int
 |_,0=> -1
 |i,k+1=>if p i=true then(i:Int)else fidx p (i+1) k
theorem Fo(p:Nat→Bool): ∀(k i:Nat),-1≤fidx p i k∧fidx p i k≤i+k
 |0,i=>by rw[fidx];omega
 |k+1,i=>by
  have:=Fo p k (i+1)
  rw[fidx];split<;>omega
theorem Gp{p:Nat→Bool}{i n:Nat}(h:fidx p i (n-i)=fidx p 0 n)(hi:i<n)(hp: ¬p i=true):fidx p (i+1) (n-(i+1))=fidx p 0 n:=by
 rw[show n-i=(n-(i+1))+1 by omega,fidx,if_neg hp]at h;exact h
theorem EC{p:Nat→Bool}{i n:Nat}(h:fidx p i (n-i)=fidx p 0 n)(hi:i<n)(hp:p i=true):(i:Int)=fidx p 0 n:=by
 rw[show n-i=(n-(i+1))+1 by omega,fidx,if_pos hp]at h;exact h
theorem EB{p:Nat→Bool}{i n:Nat}(h:fidx p i (n-i)=fidx p 0 n)(hi: ¬i<n): -1=fidx p 0 n:=by
 rw[show n-i=0 by omega,fidx]at h;exact h
theorem Gn{p:Nat→Bool}: ∀{k i:Nat},0≤fidx p i k↔ ∃j,i≤j∧j<i+k∧p j=true
 |0,i=>by rw[fidx];exact⟨fun h=>absurd h (by decide),fun⟨j,h1,h2,_⟩=>by omega⟩
 |k+1,i=>by
  rw[fidx];split
  ·rename_i h;exact⟨fun _=>⟨i,Nat.le_refl _,by omega,h⟩,fun _=>by omega⟩
  ·rename_i h
   rw[Gn]
   constructor
   ·rintro⟨j,h1,h2,h3⟩;exact⟨j,by omega,by omega,h3⟩
   ·rintro⟨j,h1,h2,h3⟩
    rcases Nat.eq_or_lt_of_le h1 with e|e
    ·subst e;exact absurd h3 h
    ·exact⟨j,e,by omega,h3⟩
def unqN{α:Type}(d:α)(e:α→α→Bool)(l:List α):Nat→List α
 |0=>[]
 |n+1=>if n=0∨ ¬e (l.getD n d) (l.getD (n-1) d)=true then unqN d e l n++[l.getD n d]else unqN d e l n
section
variable {α:Type} {d:α} {e:α→α→Bool} {l:List α}
theorem JF(d:α)(e:α→α→Bool)(l:List α): ∀n,(unqN d e l n).length≤n
 |0=>Nat.le_refl 0
 |n+1=>by have:=JF d e l n;rw[unqN];split<;>(try simp only[List.length_append,List.length_cons,List.length_nil])<;>omega
theorem EU: ∀{n:Nat},n≤l.length→ ∀x∈unqN d e l n,x∈l
 |0,_,x,h=>by cases h
 |n+1,hn,x,h=>by
  rw[unqN]at h;split at h
  ·rcases List.mem_append.1 h with h|h
   ·exact EU (by omega) x h
   ·simp only[List.mem_singleton]at h;subst h;rw[qE (by omega)];exact List.getElem_mem _
  ·exact EU (by omega) x h
structure CmO (d:α) (e:α→α→Bool) (l:List α) (i:Nat):Prop where
 h:unqN d e l i=l.take i
 h1:1≤i
 hl:i≤l.length
theorem CmO.start(h:2≤l.length):CmO d e l 1:=by
 refine⟨?_,Nat.le_refl 1,by omega⟩
 rw[unqN,if_pos (.inl rfl),unqN,jW (d:=d) (by omega)];simp
theorem CmO.step{i:Nat}(h:CmO d e l i)(hi:i<l.length)(hp: ¬e (l.getD i d) (l.getD (i-1) d)=true):CmO d e l (i+1):=
 ⟨by rw[unqN,if_pos (.inr hp),h.h,jW (d:=d) hi],by omega,by omega⟩
theorem CmO.fin{i:Nat}(h:CmO d e l i)(hi: ¬i<l.length):unqN d e l l.length=l:=by
 have:=h.h
 have e1:i=l.length:=by have:=h.hl;omega
 rw[e1,List.take_length]at this;exact this
structure CmI (d:α) (e:α→α→Bool) (l m:List α) (k i:Nat):Prop where
 hl:m.length=l.length
 hk:k+1≤i
 hi:i≤l.length
 ht:m.take k=unqN d e l i
 hd: ∀j,i≤j+1→m.getD j d=l.getD j d
theorem CmI.start{i:Nat}(h:CmO d e l i)(hi:i<l.length)(hp:e (l.getD i d) (l.getD (i-1) d)=true):CmI d e l l i (i+1):=
 ⟨rfl,Nat.le_refl _,hi,by rw[unqN,if_neg (by rintro(h2|h2);exact absurd h.h1 (by omega);exact h2 hp),h.h],fun _ _=>rfl⟩
theorem Wu{m:List α}{k j:Nat}{v:α}(h:k≠j):(m.set k v).getD j d=m.getD j d:=by
 rw[List.getD_eq_getElem?_getD,List.getElem?_set_ne h,←List.getD_eq_getElem?_getD]
theorem CmI.go{m:List α}{k i:Nat}(h:CmI d e l m k i)(hi:i<l.length)(hp: ¬e (m.getD i d) (m.getD (i-1) d)=true):CmI d e l (m.set k (m.getD i d)) (k+1) (i+1):=by
 have hk:=h.hk
 have e1:=h.hd i (by omega)
 have e2:=h.hd (i-1) (by omega)
 rw[e1,e2]at hp
 refine⟨by rw[List.length_set,h.hl],by omega,by omega,?_,fun j hj=>?_⟩
 ·rw[Ju (by rw[h.hl];omega),h.ht,unqN,if_pos (.inr hp),e1]
 ·rw[Wu (by omega)];exact h.hd j (by omega)
theorem CmI.stay{m:List α}{k i:Nat}(h:CmI d e l m k i)(hi:i<l.length)(hp:e (m.getD i d) (m.getD (i-1) d)=true):CmI d e l m k (i+1):=by
 have hk:=h.hk
 rw[h.hd i (by omega),h.hd (i-1) (by omega)]at hp
 exact⟨h.hl,by omega,by omega,by rw[h.ht,unqN,if_neg (by rintro(h2|h2);omega;exact h2 hp)],fun j hj=>h.hd j (by omega)⟩
theorem CmI.fin{m:List α}{k i:Nat}(h:CmI d e l m k i)(hi:i=l.length):m.take k=unqN d e l l.length∧k=(unqN d e l l.length).length∧k<l.length:=by
 have hk:=h.hk
 subst hi
 have ht:=h.ht
 refine⟨ht,?_,by omega⟩
 rw[←ht,List.length_take,h.hl];omega
end
section
variable {α:Type} {d:α} {e:α→α→Bool} {l:List α}
def unqD(d:α)(e:α→α→Bool)(l:List α):List α:=unqN d e l l.length
def unqF(d:α)(e:α→α→Bool)(l:List α):List α:=unqD d e l++List.replicate (l.length-(unqD d e l).length) d
theorem Ee:(unqD d e l).length≤l.length:=JF d e l _
theorem RG:(unqF d e l).length=l.length:=by
 have:=Ee (d:=d) (e:=e) (l:=l)
 unfold unqF;simp only[List.length_append,List.length_replicate];omega
theorem Pa:(unqF d e l).take (unqD d e l).length=unqD d e l:=by unfold unqF;simp
theorem HI(h:unqD d e l=l):l=unqF d e l:=by unfold unqF;rw[h];simp
theorem JE: ∀x∈unqD d e l,x∈l:=EU (Nat.le_refl _)
theorem RH{P:α→Prop}(h: ∀x∈l,P x)(h0:P d): ∀x∈unqF d e l,P x:=fun x hx=>by
 rcases List.mem_append.1 hx with hx|hx
 ·exact h x (JE x hx)
 ·rw[List.eq_of_mem_replicate hx];exact h0
theorem G1(h:l.length<2):unqD d e l=l:=by
 match l,h with
 |[],_=>rfl
 |[x],_=>rfl
theorem CmO.all{i:Nat}(h:CmO d e l i)(hi: ¬i<l.length):unqD d e l=l:=h.fin hi
theorem CmI.all{t:Ty}{e:t.den→t.den→Bool}{l m:List t.den}{k i n:Nat}(h:CmI t.dft e l m k i)(hi:i=l.length)(hn:n=l.length):clrL t m k (n-k)=unqF t.dft e l∧k=(unqD t.dft e l).length:=by
 obtain⟨h1,h2,h3⟩:=h.fin hi
 refine⟨?_,h2⟩
 unfold clrL unqF unqD
 have hl:=h.hl
 rw[h1,List.drop_of_length_le (by omega),List.append_nil,hn,←h2]
theorem PJ{t:Ty}{l:List t.den}{lo n:Nat}(h:lo+n≤l.length):(clrL t l lo n).length=l.length:=by
 unfold clrL;simp only[List.length_append,List.length_take,List.length_replicate,List.length_drop];omega
end
section
variable {α:Type} (d:α) (c:α→α→Int)
def posR(x:α)(p:List α):Nat→Nat
 |0=>0
 |j+1=>if c x (p.getD j d)<0 then posR x p j else j+1
theorem GH(x:α)(p:List α): ∀j,posR d c x p j≤j
 |0=>Nat.le_refl 0
 |j+1=>by
  unfold posR;split
  ·exact Nat.le_succ_of_le (GH x p j)
  ·exact Nat.le_refl _
def insR(x:α)(p:List α):List α:=p.take (posR d c x p p.length)++x::p.drop (posR d c x p p.length)
theorem IV(x:α)(p:List α):(insR d c x p).length=p.length+1:=by
 have:=GH d c x p p.length
 unfold insR;simp only[List.length_append,List.length_take,List.length_cons,List.length_drop];omega
def jC(l:List α):Nat→List α
 |0=>[]
 |i+1=>insR d c (l.getD i d) (jC l i)
theorem vj(l:List α): ∀i,(jC d c l i).length=i
 |0=>rfl
 |i+1=>by rw[jC,IV,vj l i]
def jP(l:List α):List α:=jC d c l l.length
theorem HD(l:List α):(jP d c l).length=l.length:=vj d c l _
theorem IW{x y:α}{p:List α}:y∈insR d c x p↔y=x∨y∈p:=by
 unfold insR
 rw[List.mem_append,List.mem_cons]
 constructor
 ·rintro(h|h|h)
  ·exact .inr (List.mem_of_mem_take h)
  ·exact .inl h
  ·exact .inr (List.mem_of_mem_drop h)
 ·rintro(h|h)
  ·exact .inr (.inl h)
  ·rw[←List.take_append_drop (posR d c x p p.length) p]at h
   rcases List.mem_append.1 h with h|h
   ·exact .inl h
   ·exact .inr (.inr h)
theorem HC{y:α}{l:List α}: ∀{i},i≤l.length→(y∈jC d c l i↔y∈l.take i)
 |0,_=>by simp[jC]
 |i+1,h=>by
  rw[jC,IW,HC (by omega),jW (d:=d) (by omega),List.mem_append,List.mem_singleton,Or.comm]
theorem Do{y:α}{l:List α}:y∈jP d c l↔y∈l:=by rw[jP,HC d c (Nat.le_refl _),List.take_length]
structure SoO (l m:List α) (i:Nat):Prop where
 h:m=jC d c l i++l.drop i
 hi:i≤l.length
structure SoI (l m:List α) (i j:Nat):Prop where
 h:m=((jC d c l i).take j++l.getD i d::(jC d c l i).drop j)++l.drop (i+1)
 hi:i<l.length
 hj:j≤i
 hp:posR d c (l.getD i d) (jC d c l i) j=posR d c (l.getD i d) (jC d c l i) i
variable {d c} {l m:List α} {i j:Nat}
theorem SoO.start(h:1≤l.length):SoO d c l l 1:=by
 refine⟨?_,h⟩
 match l,h with
 |x::r,_=>rfl
theorem SoO.inner(h:SoO d c l m i)(hi:i<l.length):SoI d c l m i i:=by
 have hl:=vj d c l i
 refine⟨?_,hi,Nat.le_refl _,rfl⟩
 have e1:(jC d c l i).take i=jC d c l i:=List.take_of_length_le (by omega)
 have e2:(jC d c l i).drop i=[]:=List.drop_of_length_le (by omega)
 rw[h.h,e1,e2,List.append_assoc,List.drop_eq_getElem_cons hi,qE hi];rfl
theorem SoI.len(h:SoI d c l m i j):m.length=l.length:=by
 have hl:=vj d c l i;have h1:=h.hi;have h2:=h.hj
 rw[h.h];simp only[List.length_append,List.length_take,List.length_cons,List.length_drop];omega
theorem SoO.len(h:SoO d c l m i):m.length=l.length:=by
 have hl:=vj d c l i;have h1:=h.hi
 rw[h.h];simp only[List.length_append,List.length_drop];omega
theorem SoI.at_(h:SoI d c l m i j):m.getD j d=l.getD i d:=by
 have hl:=vj d c l i;have h2:=h.hj
 rw[h.h,List.getD_eq_getElem?_getD,List.getElem?_append_left (by simp only[List.length_append,List.length_take,List.length_cons];omega),List.getElem?_append_right (by simp only[List.length_take];omega)]
 simp only[List.length_take,show j-min j (jC d c l i).length=0 by omega];rfl
theorem SoI.pred(h:SoI d c l m i j)(h0:0<j):m.getD (j-1) d=(jC d c l i).getD (j-1) d:=by
 have hl:=vj d c l i;have h2:=h.hj
 rw[h.h,List.getD_eq_getElem?_getD,List.getElem?_append_left (by simp only[List.length_append,List.length_take,List.length_cons];omega),List.getElem?_append_left (by simp only[List.length_take];omega),List.getElem?_take_of_lt (by omega),←List.getD_eq_getElem?_getD]
theorem SoI.step(h:SoI d c l m i j)(h0:0<j)(hc:c (m.getD j d) (m.getD (j-1) d)<0):SoI d c l ((m.set j (m.getD (j-1) d)).set (j-1) (m.getD j d)) i (j-1):=by
 have hl:=vj d c l i;have h2:=h.hj
 rw[h.at_,h.pred h0]at hc⊢
 obtain⟨k,rfl⟩: ∃k,j=k+1:=⟨j-1,by omega⟩
 rw[show k+1-1=k by omega]at hc⊢
 refine⟨?_,h.hi,by omega,?_⟩
 ·rw[h.h]
  generalize hP:jC d c l i=P at*
  have hk:k<P.length:=by omega
  have e1:P.take (k+1)=P.take k++[P.getD k d]:=jW hk
  have e2:P.drop k=P.getD k d::P.drop (k+1):=by rw[qE hk];exact List.drop_eq_getElem_cons hk
  have e3:(P.take k).length=k:=by rw[List.length_take];omega
  rw[e1,e2]
  generalize P.take k=A at*;generalize P.getD k d=y at*;generalize l.getD i d=x at*;generalize P.drop (k+1)=B at*
  subst e3
  have s1: ∀(u v w:α)(R:List α),(A++u::v::R).set (A.length+1) w=A++u::w::R:=by
   intro u v w R;rw[List.set_append_right _ _ (by omega)];simp
  have s2: ∀(u w:α)(R:List α),(A++u::R).set A.length w=A++w::R:=by
   intro u w R;rw[List.set_append_right _ _ (by omega)];simp
  simp only[List.append_assoc,List.cons_append,List.nil_append,s1,s2]
 ·have e:=h.hp
  rw[←e,posR,if_pos hc]
theorem SoI.stop(h:SoI d c l m i j)(hc: ¬(0<j)∨ ¬c (m.getD j d) (m.getD (j-1) d)<0):SoO d c l m (i+1):=by
 have hl:=vj d c l i;have h2:=h.hj
 have e:posR d c (l.getD i d) (jC d c l i) i=j:=by
  rw[←h.hp]
  rcases hc with hc|hc
  ·rw[show j=0 by omega];rfl
  ·rcases Nat.eq_zero_or_pos j with h0|h0
   ·rw[h0];rfl
   ·rw[h.at_,h.pred h0]at hc
    obtain⟨k,rfl⟩: ∃k,j=k+1:=⟨j-1,by omega⟩
    rw[show k+1-1=k by omega]at hc
    rw[posR,if_neg hc]
 refine⟨?_,h.hi⟩
 rw[jC,insR,hl,e];exact h.h
theorem SoO.fin(h:SoO d c l m i)(hi: ¬i<l.length):m=jP d c l:=by
 have:=h.hi
 have e:i=l.length:=by omega
 rw[h.h,e,List.drop_length,List.append_nil];rfl
theorem RC(h: ¬1≤l.length):l=jP d c l:=by
 match l,h with
 |[],_=>rfl
 |_::_,h=>exact absurd (Nat.succ_pos _) h
end
end
def cpV(p q:V3):Int:=if cmpQ p.1 q.1≠0 then cmpQ p.1 q.1 else if cmpQ p.2.1 q.2.1≠0 then cmpQ p.2.1 q.2.1 else cmpQ p.2.2 q.2.2
theorem q1d(p q:V3):(cpV p q).natAbs≤1:=by unfold cpV;(repeat' split)<;>exact wg _ _
theorem zy{x y:Rat}:cmpQ x y=0↔x=y:=by unfold cmpQ;(repeat' split)<;>grind
theorem q1c{p q:V3}:cpV p q=0↔p=q:=by
 rw[wQ,←zy,←zy,←zy];unfold cpV
 by_cases h1:cmpQ p.1 q.1=0
 ·by_cases h2:cmpQ p.2.1 q.2.1=0
  ·simp[h1,h2]
  ·simp[h1,h2]
 ·simp[h1]
theorem Sh{p q:V3}(h:cmpQ p.1 q.1≠0):cmpQ p.1 q.1=cpV p q:=by unfold cpV;rw[if_pos h]
theorem Si{p q:V3}(h: ¬cmpQ p.1 q.1≠0)(h2:cmpQ p.2.1 q.2.1≠0):cmpQ p.2.1 q.2.1=cpV p q:=by unfold cpV;rw[if_neg h,if_pos h2]
theorem Sj{p q:V3}(h: ¬cmpQ p.1 q.1≠0)(h2: ¬cmpQ p.2.1 q.2.1≠0)(h3:cmpQ p.2.2 q.2.2≠0):cmpQ p.2.2 q.2.2=cpV p q:=by unfold cpV;rw[if_neg h,if_neg h2]
theorem Sk{p q:V3}(h: ¬cmpQ p.1 q.1≠0)(h2: ¬cmpQ p.2.1 q.2.1≠0)(h3: ¬cmpQ p.2.2 q.2.2≠0):0=cpV p q:=by unfold cpV;rw[if_neg h,if_neg h2];exact(Decidable.of_not_not h3).symm
theorem CT{p q:V3}:cpV p q<0↔p.1<q.1∨(p.1=q.1∧(p.2.1<q.2.1∨(p.2.1=q.2.1∧p.2.2<q.2.2))):=by
 unfold cpV
 by_cases h1:cmpQ p.1 q.1=0
 ·rw[if_neg (by simpa using h1)]
  have e1:=zy.1 h1
  by_cases h2:cmpQ p.2.1 q.2.1=0
  ·rw[if_neg (by simpa using h2),A1]
   have e2:=zy.1 h2
   grind
  ·rw[if_pos h2,A1]
   have e2:=mt zy.2 h2
   grind
 ·rw[if_pos h1,A1]
  have e1:=mt zy.2 h1
  grind
abbrev eqV:V3→V3→Bool:=fun p q=>decide (p=q)
def insQ(a b p:V3):Prop:=qc (subV b a) (subV p a)=(0,0,0)∧dotQ (subV a p) (subV b p)<0
instance(a b p:V3):Decidable (insQ a b p):=by unfold insQ;infer_instance
def cm(p:V3)(k:Nat):Rat:=[p.1,p.2.1,p.2.2].getD k 0
def Btw(a b p:V3)(k:Nat):Prop:= ∀j,j<k→ ¬cmpQ (cm a j) (cm p j)*cmpQ (cm p j) (cm b j)<0
theorem Tt{x y z:Rat}:cmpQ x y*cmpQ y z<0↔0<(x-y)*(z-y):=by
 unfold cmpQ
 have pos: ∀{u v:Rat},0<u→0<v→0<u*v:=fun h k=>Rat.mul_pos h k
 by_cases h1:x<y
 ·by_cases h2:y<z
  ·rw[if_pos h1,if_pos h2]
   have:=pos (show 0<y-x by grind) (show 0<z-y by grind)
   grind
  ·by_cases h3:y=z
   ·subst h3;rw[if_pos h1,if_neg h2,if_pos rfl];grind
   ·rw[if_pos h1,if_neg h2,if_neg h3]
    have:=pos (show 0<y-x by grind) (show 0<y-z by grind)
    grind
 ·by_cases h0:x=y
  ·subst h0;rw[if_neg h1,if_pos rfl];grind
  ·by_cases h2:y<z
   ·rw[if_neg h1,if_neg h0,if_pos h2]
    have:=pos (show 0<x-y by grind) (show 0<z-y by grind)
    grind
   ·by_cases h3:y=z
    ·subst h3;rw[if_neg h1,if_neg h0,if_neg h2,if_pos rfl];grind
    ·rw[if_neg h1,if_neg h0,if_neg h2,if_neg h3]
     have:=pos (show 0<x-y by grind) (show 0<y-z by grind)
     grind
theorem Bw{a b p:V3}:insQ a b p↔Btw a b p 3∧a≠p∧b≠p∧qc (subV b a) (subV p a)=(0,0,0):=by
 obtain⟨a1,a2,a3⟩:=a;obtain⟨b1,b2,b3⟩:=b;obtain⟨p1,p2,p3⟩:=p
 have hB:Btw (a1,a2,a3) (b1,b2,b3) (p1,p2,p3) 3↔(a1-p1)*(b1-p1)≤0∧(a2-p2)*(b2-p2)≤0∧(a3-p3)*(b3-p3)≤0:=by
  unfold Btw
  simp only[Tt]
  constructor
  ·intro h
   have h0: ¬0<(a1-p1)*(b1-p1):=h 0 (by omega)
   have h1: ¬0<(a2-p2)*(b2-p2):=h 1 (by omega)
   have h2: ¬0<(a3-p3)*(b3-p3):=h 2 (by omega)
   grind
  ·rintro⟨h0,h1,h2⟩ j hj
   match j,hj with
   |0,_=>show¬0<(a1-p1)*(b1-p1);grind
   |1,_=>show¬0<(a2-p2)*(b2-p2);grind
   |2,_=>show¬0<(a3-p3)*(b3-p3);grind
 unfold insQ
 rw[hB]
 simp only[qc,subV,dotQ,Prod.mk.injEq,ne_eq,not_and]
 have c1:(b2-a2)*(p3-a3) -(b3-a3)*(p2-a2)=0↔(a2-p2)*(b3-p3)=(a3-p3)*(b2-p2):=by grind
 have c2:(b3-a3)*(p1-a1) -(b1-a1)*(p3-a3)=0↔(a3-p3)*(b1-p1)=(a1-p1)*(b3-p3):=by grind
 have c3:(b1-a1)*(p2-a2) -(b2-a2)*(p1-a1)=0↔(a1-p1)*(b2-p2)=(a2-p2)*(b1-p1):=by grind
 rw[c1,c2,c3]
 have z1:a1=p1↔a1-p1=0:=by grind
 have z2:a2=p2↔a2-p2=0:=by grind
 have z3:a3=p3↔a3-p3=0:=by grind
 have y1:b1=p1↔b1-p1=0:=by grind
 have y2:b2=p2↔b2-p2=0:=by grind
 have y3:b3=p3↔b3-p3=0:=by grind
 rw[z1,z2,z3,y1,y2,y3]
 generalize a1-p1=u1 at*;generalize a2-p2=u2 at*;generalize a3-p3=u3 at*
 generalize b1-p1=v1 at*;generalize b2-p2=v2 at*;generalize b3-p3=v3 at*
 constructor
 ·rintro⟨⟨e1,e2,e3⟩,hd⟩
  have key: ∀x y n:Rat,x*y*n=(x*x)*(v1*v1+v2*v2+v3*v3)→n<0→x*y≤0:=by
   intro x y n h hn
   rcases Rat.le_total (a:=x*y) (b:=0)with q|q
   ·exact q
   ·have h1:=Rat.mul_nonneg q (show 0≤ -n by grind)
    have h2:=Rat.mul_nonneg (zA x) (show 0≤v1*v1+v2*v2+v3*v3 by have:=zA v1;have:=zA v2;have:=zA v3;grind)
    have h3:x*y*n=0:=by grind
    rcases Rat.mul_eq_zero.1 h3 with h4|h4<;>grind
  refine⟨⟨key u1 v1 _ ?_ hd,key u2 v2 _ ?_ hd,key u3 v3 _ ?_ hd⟩,fun h1 h2 h3=>by subst h1 h2 h3;grind,fun h1 h2 h3=>by subst h1 h2 h3;grind,e1,e2,e3⟩<;>grind
 ·rintro⟨⟨h1,h2,h3⟩,n1,n2,e1,e2,e3⟩
  refine⟨⟨e1,e2,e3⟩,?_⟩
  have h4:u1*v1+u2*v2+u3*v3≤0:=by grind
  by_cases h5:u1*v1+u2*v2+u3*v3=0
  ·exfalso
   have k1:u1*v1=0:=by grind
   have k2:u2*v2=0:=by grind
   have k3:u3*v3=0:=by grind
   rcases Rat.mul_eq_zero.1 k1 with q1|q1<;>rcases Rat.mul_eq_zero.1 k2 with q2|q2<;>rcases Rat.mul_eq_zero.1 k3 with q3|q3<;>subst q1 q2 q3<;>
    grind
  ·grind
section
abbrev z3:V3:=(0,0,0)
def valP(q:V3×Rat)(p:V3):Rat:=dotQ q.1 p-q.2
theorem JK{q:V3×Rat}{p:V3}{k m:Nat}(h:Bnd tPl (.p (bV3 k) (.n k)) q)(hp:Bnd tV3 (bV3 m) p):Bnd .rat (.n (4*k+3*m+3)) (valP q p):=
 ja (wW (wT h.1 hp) h.2) (by omega)
theorem pl_m{b:Bd}{q:V3×Rat}(h:Bnd tPl b q):Bnd tPl (.p (bV3 b.mx) (.n b.mx)) q:=
 ⟨v7 h.pr.1 b.l_mx,At h.pr.2 (Nat.le_trans (Bd.nb_mx _) b.r_mx)⟩
theorem q0s{q:V3×Rat}{p:V3}{b c:Bd}(h:Bnd tPl b q)(hp:Bnd tV3 c p):Bnd .rat (.n (4*b.mx+3*c.mx+3)) (valP q p):=JK (pl_m h) (v7 hp (Nat.le_refl _))
def crsV(q:V3×Rat)(a b:V3):V3:=onS a b (valP q a/(valP q a-valP q b))
theorem Sn{q:V3×Rat}{a b:V3}{k m:Nat}(h:Bnd tPl (.p (bV3 k) (.n k)) q)(ha:Bnd tV3 (bV3 m) a)(hb:Bnd tV3 (bV3 m) b):Bnd tV3 (bV3 (12*(k+m)+12)) (crsV q a b):=by
 have va:=JK h ha;have vb:=JK h hb
 exact zg (add_m ha (GM (Mt va (wW va vb)) (sub_m hb ha))) (by omega)
theorem Sm{q:V3×Rat}{a b:V3}{c d e:Bd}(h:Bnd tPl c q)(ha:Bnd tV3 d a)(hb:Bnd tV3 e b):Bnd tV3 (bV3 (12*(c.mx+max d.mx e.mx)+12)) (crsV q a b):=
 Sn (pl_m h) (v7 ha (by omega)) (v7 hb (by omega))
def oppP(q:V3×Rat):V3×Rat:=(qI ((-1:Int):Rat) q.1,-q.2)
theorem DY{x:Rat}{m:Nat}(h:Bnd .rat (.n m) x):Bnd .rat (.n m) (-x):=⟨by rw[Rat.neg_num,Int.natAbs_neg];exact h.1,by rw[Rat.neg_den];exact h.2⟩
theorem Z5{x:Rat}(h: ¬x.num<0):decide (0<(limbs x.num.natAbs).length)=decide ((-x).num<0):=by
 rw[Rat.neg_num]
 apply decide_eq_decide.2
 have:=nl0 (x:=x.num.natAbs)
 omega
theorem Z6{x:Rat}(h: ¬ ¬x.num<0):false=decide ((-x).num<0):=by
 rw[Rat.neg_num];symm;apply decide_eq_false;omega
theorem Mo{q:V3×Rat}{b:Bd}(h:Bnd tPl b q):Bnd tPl (.p (bV3 (b.mx+1)) (.n (b.mx+1))) (oppP q):=by
 have h2:=pl_m h
 have h1:Bnd .rat (.n 1) ((-1:Int):Rat):=⟨by show(1:Nat)<2^1;omega,by show(1:Nat)≤2^1;omega⟩
 exact⟨zg (GM h1 h2.1) (by omega),ja (DY h2.2) (by omega)⟩
def zV (q : V3 × Rat) (l : List V3) (i : Nat) : List V3 :=
 (if cmpQ (dotQ q.1 (l.getD i z3)) q.2 ≤ 0 then [l.getD i z3] else []) ++
  (if cmpQ (dotQ q.1 (l.getD i z3)) q.2 * cmpQ (dotQ q.1 (l.getD ((i + 1) % l.length) z3)) q.2 < 0 then [crsV q (l.getD i z3) (l.getD ((i + 1) % l.length) z3)] else [])
def qR(q:V3×Rat)(l:List V3):Nat→List V3
 |0=>[]
 |i+1=>qR q l i++zV q l i
def qC(q:V3×Rat)(l:List V3):List V3:=qR q l l.length
theorem N8(q:V3×Rat)(l:List V3)(i:Nat):(zV q l i).length≤2:=by
 unfold zV;(repeat' split)<;>simp
theorem wF(q:V3×Rat)(l:List V3): ∀i,(qR q l i).length≤2*i
 |0=>Nat.le_refl 0
 |i+1=>by have h1:=wF q l i;have h2:=N8 q l i;rw[qR,List.length_append];omega
section
variable {q:V3×Rat} {l o:List V3} {i:Nat}
theorem Ky(h:o=qR q l i)(h1: ¬cmpQ (dotQ q.1 (l.getD i z3)) q.2≤0)(h2: ¬cmpQ (dotQ q.1 (l.getD i z3)) q.2*cmpQ (dotQ q.1 (l.getD ((i+1)%l.length) z3)) q.2<0):o=qR q l (i+1):=by
 rw[qR,zV,if_neg h1,if_neg h2,h];simp
theorem KA(h:o=qR q l i)(h1:cmpQ (dotQ q.1 (l.getD i z3)) q.2≤0)(h2: ¬cmpQ (dotQ q.1 (l.getD i z3)) q.2*cmpQ (dotQ q.1 (l.getD ((i+1)%l.length) z3)) q.2<0):o++[l.getD i z3]=qR q l (i+1):=by
 rw[qR,zV,if_pos h1,if_neg h2,h];simp
theorem Kz(h:o=qR q l i)(h1: ¬cmpQ (dotQ q.1 (l.getD i z3)) q.2≤0)(h2:cmpQ (dotQ q.1 (l.getD i z3)) q.2*cmpQ (dotQ q.1 (l.getD ((i+1)%l.length) z3)) q.2<0):o++[crsV q (l.getD i z3) (l.getD ((i+1)%l.length) z3)]=qR q l (i+1):=by
 rw[qR,zV,if_neg h1,if_pos h2,h];simp
theorem KB(h:o=qR q l i)(h1:cmpQ (dotQ q.1 (l.getD i z3)) q.2≤0)(h2:cmpQ (dotQ q.1 (l.getD i z3)) q.2*cmpQ (dotQ q.1 (l.getD ((i+1)%l.length) z3)) q.2<0):(o++[l.getD i z3])++[crsV q (l.getD i z3) (l.getD ((i+1)%l.length) z3)]=qR q l (i+1):=by
 rw[qR,zV,if_pos h1,if_pos h2,h];simp
end
theorem Ay(m:Nat):Bnd .rat (.n m) 0:=⟨Nat.pow_pos (by omega),Nat.pow_pos (by omega)⟩
theorem z3_b(m:Nat):Bnd tV3 (bV3 m) z3:=⟨Ay _,Ay _,Ay _⟩
theorem vM{l:List V3}{m:Nat}(h: ∀x∈l,Bnd tV3 (bV3 m) x)(i:Nat):Bnd tV3 (bV3 m) (l.getD i z3):=by
 by_cases hi:i<l.length
 ·rw[qE hi];exact h _ (List.getElem_mem hi)
 ·rw[List.getD_eq_getElem?_getD,List.getElem?_eq_none (by omega)];exact z3_b m
theorem Gi{q:V3×Rat}{l:List V3}{k m:Nat}(hq:Bnd tPl (.p (bV3 k) (.n k)) q)(h: ∀x∈l,Bnd tV3 (bV3 m) x): ∀i,∀x∈qR q l i,Bnd tV3 (bV3 (12*(k+m)+12)) x
 |0,x,hx=>by cases hx
 |i+1,x,hx=>by
  rcases List.mem_append.1 hx with hx|hx
  ·exact Gi hq h i x hx
  ·unfold zV at hx
   rcases List.mem_append.1 hx with hx|hx
   ·split at hx
    ·rw[List.mem_singleton.1 hx];exact zg (vM h i) (by omega)
    ·cases hx
   ·split at hx
    ·rw[List.mem_singleton.1 hx];exact Sn hq (vM h i) (vM h _)
    ·cases hx
theorem Bnd.l3{b:Bd}{l:List V3}(h:Bnd (.sl tV3) b l):l.length≤b.len∧ ∀x∈l,Bnd tV3 (bV3 b.mx) x:=by
 have h2:=h.sl
 have m:b.e.mx≤b.mx:=by cases b<;>simp[Bd.e,Bd.mx]
 exact⟨h2.1,fun x hx=>v7 (h2.2 x hx) m⟩
theorem Na{q:V3×Rat}{l:List V3}{b c:Bd}(hl:Bnd (.sl tV3) b l)(hq:Bnd tPl c q):Bnd (.sl tV3) (.s (2*b.len) (bV3 (12*(c.mx+b.mx)+12))) (qC q l):=by
 have h:=hl.l3
 have:=wF q l l.length
 exact⟨by show(qR q l l.length).length≤_;omega,Gi (pl_m hq) h.2 _⟩
def mid1(l:List V3)(p:V3)(i:Nat):Nat→Bool
 |0=>false
 |m+1=>mid1 l p i m||decide (insQ (l.getD i z3) ((l.drop (i+1)).getD m z3) p)
def mid2(l:List V3)(p:V3):Nat→Bool
 |0=>false
 |i+1=>mid2 l p i||mid1 l p i (l.drop (i+1)).length
def jm(l:List V3):Nat→List V3
 |0=>[]
 |n+1=>if mid2 l (l.getD n z3) l.length then jm l n else jm l n++[l.getD n z3]
def qj(l:List V3):List V3:=unqD z3 eqV (jP z3 cpV l)
def zl(l:List V3):List V3:=jm (qj l) (qj l).length
theorem CO(l:List V3): ∀n,(jm l n).length≤n
 |0=>Nat.le_refl 0
 |n+1=>by
  have:=CO l n
  unfold jm;split
  ·omega
  ·rw[List.length_append];simp only[List.length_cons,List.length_nil];omega
theorem CP{l:List V3}{x:V3}: ∀{n},n≤l.length→x∈jm l n→x∈l
 |0,_,h=>by cases h
 |n+1,hn,h=>by
  unfold jm at h
  split at h
  ·exact CP (by omega) h
  ·rcases List.mem_append.1 h with h|h
   ·exact CP (by omega) h
   ·rw[List.mem_singleton.1 h,qE (by omega)];exact List.getElem_mem _
theorem HF{l:List V3}: ∀x∈qj l,x∈l:=fun x hx=>(Do z3 cpV).1 (JE x hx)
theorem Dp(l:List V3):(qj l).length≤l.length:=by have:=Ee (d:=z3) (e:=eqV) (l:=jP z3 cpV l);rw[HD]at this;exact this
theorem CS{l:List V3}{x:V3}(h:x∈zl l):x∈l:=HF x (CP (Nat.le_refl _) h)
theorem CR(l:List V3):(zl l).length≤l.length:=Nat.le_trans (CO _ _) (Dp l)
theorem q0l{l o:List V3}{b:Bd}(h:Bnd (.sl tV3) b l)(hl:o.length≤l.length)(hm: ∀x∈o,x∈l):Bnd (.sl tV3) (.s b.len b.e) o:=
 ⟨Nat.le_trans hl h.sl.1,fun x hx=>h.sl.2 x (hm x hx)⟩
def qb(a b:T3):List V3:=
 qC (upP (qd b) b.2.2 b.1) (qC (upP (qd b) b.2.1 b.2.2) (qC (upP (qd b) b.1 b.2.1) (qC (oppP (qd b)) (qC (qd b) [a.1,a.2.1,a.2.2]))))
def qv(a b:T3):List V3:=if qz a=z3∨qz b=z3 then[]else zl (qb a b)
end
abbrev W6:FI:=⟨196,[.rat],[(.n 1099511627776)],fun _=>[],fun b z=>(fun(x:Rat)=> .c (.agg [.dt .rat (.n (b0 b).nb) (-x)])) z⟩
theorem W7:W6.OK Tryz.prog:=mkF hmix 16 Tryz.func196 rfl rfl (by decide) [(134,.c Dc)] (fun(x:Rat) b hx hp=>qP (DY (At (Bnds.h1 hx) (Nat.le_refl _)))) (fun(x:Rat) hx hp=>by
 have hx0:Bnd .rat (.n 1099511627776) x:=hx
 have hx0:Bnd .rat (.n 1099511627776) x:=hx
 refine⟨.cond (.h 3 0 (.rat (-x) 1099511627776) (.nil)) (.h 3 0 (.rat (-x) 1099511627776) (.nil)),kcast (by kernel_rfl) (Sp (¬(x.num<0)) (fun h1=>I (Z5 (by assumption):decide (0<(limbs x.num.natAbs).length)=decide ((-x).num<0)) (I (by rw[Rat.neg_num,Int.natAbs_neg]:x.num.natAbs=(-x).num.natAbs) (I (by rw[Rat.neg_den]:denL x.den=denL (-x).den) (I ((DY hx0).1:lt2 (-x).num.natAbs 1099511627776) (I ((DY hx0).2:le2 (-x).den 1099511627776) ((Eq.refl (-x)))))))) (fun h2=>I (Z6 (by assumption):false=decide ((-x).num<0)) (I (by rw[Rat.neg_num,Int.natAbs_neg]:x.num.natAbs=(-x).num.natAbs) (I (by rw[Rat.neg_den]:denL x.den=denL (-x).den) (I ((DY hx0).1:lt2 (-x).num.natAbs 1099511627776) (I ((DY hx0).2:le2 (-x).den 1099511627776) ((Eq.refl (-x)))))))))⟩)
abbrev W5:Ctr Tryz.prog:=FI.c W7
abbrev Zw:FI:=⟨124,[(.pr (.pr .rat (.pr .rat .rat)) .rat)],[(.p (.p (.n 16777216) (.p (.n 16777216) (.n 16777216))) (.n 16777216))],fun _=>[],fun b z=>(fun(q:(Rat×Rat×Rat)×Rat)=> .c (.agg [.dt tPl (.p (bV3 ((b0 b).mx+1)) (.n ((b0 b).mx+1))) (oppP q)])) z⟩
theorem Zx:Zw.OK Tryz.prog:=mkF hmix 11 Tryz.func124 rfl rfl (by decide) [(130,.c Dv),(132,.c OS),(196,.c W5)] (fun(q:(Rat×Rat×Rat)×Rat) b hx hp=>qP (Mo (Bnds.h1 hx))) (fun(q:(Rat×Rat×Rat)×Rat) hx hp=>by
 refine⟨.nil,kcast (by kernel_rfl) ((rfl:(qI (((-1):Int):Rat) q.1,-q.2)=oppP q))⟩)
abbrev Zv:Ctr Tryz.prog:=FI.c Zx
abbrev Zz:FI:=⟨61,[(.pr (.pr .rat (.pr .rat .rat)) .rat)],[(.p (.p (.n 16777216) (.p (.n 16777216) (.n 16777216))) (.n 16777216))],fun _=>[],fun b z=>(fun(q:(Rat×Rat×Rat)×Rat)=> .c (.agg [.dt tPl (.p (bV3 ((b0 b).mx+1)) (.n ((b0 b).mx+1))) (oppP q)])) z⟩
theorem ZA:Zz.OK Tryz.prog:=mkF hmix 11 Tryz.func61 rfl rfl (by decide) [(22,.c HK),(29,.c Ga),(80,.c Pz)] (fun(q:(Rat×Rat×Rat)×Rat) b hx hp=>qP (Mo (Bnds.h1 hx))) (fun(q:(Rat×Rat×Rat)×Rat) hx hp=>by
 refine⟨.nil,kcast (by kernel_rfl) ((rfl:(qI (((-1):Int):Rat) q.1,-q.2)=oppP q))⟩)
abbrev Zy:Ctr Tryz.prog:=FI.c ZA
abbrev q0e:FI:=⟨203,[(.pr (.pr .rat (.pr .rat .rat)) .rat),(.pr .rat (.pr .rat .rat))],[(.p (.p (.n 16777216) (.p (.n 16777216) (.n 16777216))) (.n 16777216)),(.p (.n 67108864) (.p (.n 67108864) (.n 67108864)))],fun _=>[],fun b z=>(fun(q:(Rat×Rat×Rat)×Rat)(p:Rat×Rat×Rat)=> .c (.agg [.dt .rat (.n (4*(b0 b).mx+3*(b1 b).mx+3)) (valP q p)])) z.1 z.2⟩
theorem q0f:q0e.OK Tryz.prog:=mkF hmix 12 Tryz.func203 rfl rfl (by decide) [(28,.c Dy),(33,.c BM)] (fun(q:(Rat×Rat×Rat)×Rat)(p:Rat×Rat×Rat) b hx hp=>qP (q0s (Bnds.h2 hx).1 (Bnds.h2 hx).2)) (fun(q:(Rat×Rat×Rat)×Rat)(p:Rat×Rat×Rat) hx hp=>by
 refine⟨.nil,kcast (by kernel_rfl) ((rfl:(dotQ q.1 p) -q.2=valP q p))⟩)
abbrev q0d:Ctr Tryz.prog:=FI.c q0f
abbrev Qt:FI:=⟨195,[(.pr (.pr .rat (.pr .rat .rat)) .rat),(.pr .rat (.pr .rat .rat)),(.pr .rat (.pr .rat .rat))],[(.p (.p (.n 16777216) (.p (.n 16777216) (.n 16777216))) (.n 16777216)),(.p (.n 67108864) (.p (.n 67108864) (.n 67108864))),(.p (.n 67108864) (.p (.n 67108864) (.n 67108864)))],fun _=>[],fun b z=>(fun(q:(Rat×Rat×Rat)×Rat)(a:Rat×Rat×Rat)(b_:Rat×Rat×Rat)=> .c (.agg [.dt tV3 (bV3 (12*((b0 b).mx+max (b1 b).mx (b2 b).mx)+12)) (crsV q a b_)])) z.1 z.2.1 z.2.2⟩
theorem Qu:Qt.OK Tryz.prog:=mkF hmix 40 Tryz.func195 rfl rfl (by decide) [(71,.c FU),(72,.c Ac),(73,.c Jt),(128,.c Ad),(129,.c LB),(130,.c Dv)] (fun(q:(Rat×Rat×Rat)×Rat)(a:Rat×Rat×Rat)(b_:Rat×Rat×Rat) b hx hp=>qP (Sm (Bnds.h3 hx).1 (Bnds.h3 hx).2.1 (Bnds.h3 hx).2.2)) (fun(q:(Rat×Rat×Rat)×Rat)(a:Rat×Rat×Rat)(b_:Rat×Rat×Rat) hx hp=>by
 refine⟨.nil,kcast (by kernel_rfl) ((rfl:addV a (qI (((dotQ q.1 a) -q.2)/(((dotQ q.1 a) -q.2) -((dotQ q.1 b_) -q.2))) (subV b_ a))=crsV q a b_))⟩)
abbrev Qs:Ctr Tryz.prog:=FI.c Qu
abbrev VP:FI:=⟨127,[(.pr .rat (.pr .rat .rat)),(.pr .rat (.pr .rat .rat)),(.pr (.pr .rat (.pr .rat .rat)) .rat)],[(.p (.n 67108864) (.p (.n 67108864) (.n 67108864))),(.p (.n 67108864) (.p (.n 67108864) (.n 67108864))),(.p (.p (.n 16777216) (.p (.n 16777216) (.n 16777216))) (.n 16777216))],fun _=>[],fun b z=>(fun(a:Rat×Rat×Rat)(b_:Rat×Rat×Rat)(q:(Rat×Rat×Rat)×Rat)=> .c (.agg [.dt tV3 (bV3 (12*((b2 b).mx+max (b0 b).mx (b1 b).mx)+12)) (crsV q a b_)])) z.1 z.2.1 z.2.2⟩
theorem VQ:VP.OK Tryz.prog:=mkF hmix 32 Tryz.func127 rfl rfl (by decide) [(21,.c X0),(22,.c HK),(25,.c BN),(28,.c Dy),(86,.c q10),(203,.c q0d)] (fun(a:Rat×Rat×Rat)(b_:Rat×Rat×Rat)(q:(Rat×Rat×Rat)×Rat) b hx hp=>qP (Sm (Bnds.h3 hx).2.2 (Bnds.h3 hx).1 (Bnds.h3 hx).2.1)) (fun(a:Rat×Rat×Rat)(b_:Rat×Rat×Rat)(q:(Rat×Rat×Rat)×Rat) hx hp=>by
 refine⟨.nil,kcast (by kernel_rfl) ((rfl:addV a (qI ((valP q a)/((valP q a) -(valP q b_))) (subV b_ a))=crsV q a b_))⟩)
abbrev VO:Ctr Tryz.prog:=FI.c VQ
abbrev q0g:FI:=⟨199,[(.pr .rat (.pr .rat .rat)),(.pr .rat (.pr .rat .rat))],[(.p (.n 2147483648) (.p (.n 2147483648) (.n 2147483648))),(.p (.n 2147483648) (.p (.n 2147483648) (.n 2147483648)))],fun _=>[],fun b z=>(fun(p:Rat×Rat×Rat)(q:Rat×Rat×Rat)=> .c (.one (.dt (.int .i64) (.n 1) (cpV p q)))) z.1 z.2⟩
theorem q0h:q0g.OK Tryz.prog:=mkF hmix 21 Tryz.func199 rfl rfl (by decide) [(133,.c BE)] (fun(p:Rat×Rat×Rat)(q:Rat×Rat×Rat) b hx hp=>qa (q1d p q) rfl) (fun(p:Rat×Rat×Rat)(q:Rat×Rat×Rat) hx hp=>by
 refine⟨.nil,kcast (by kernel_rfl) (Sp (cmpQ p.1 q.1≠0) (fun h1=>(Sh h1:cmpQ p.1 q.1=cpV p q)) (fun h2=>Sp (cmpQ p.2.1 q.2.1≠0) (fun h3=>(Si h2 h3:cmpQ p.2.1 q.2.1=cpV p q)) (fun h4=>Sp (cmpQ p.2.2 q.2.2≠0) (fun h5=>(Sj h2 h4 h5:cmpQ p.2.2 q.2.2=cpV p q)) (fun h6=>(Sk h2 h4 h6:0=cpV p q)))))⟩)
abbrev OY:Ctr Tryz.prog:=FI.c q0h
abbrev WG:FI:=⟨64,[(.pr .rat (.pr .rat .rat)),(.pr .rat (.pr .rat .rat))],[(.p (.n 2147483648) (.p (.n 2147483648) (.n 2147483648))),(.p (.n 2147483648) (.p (.n 2147483648) (.n 2147483648)))],fun _=>[],fun b z=>(fun(p:Rat×Rat×Rat)(q:Rat×Rat×Rat)=> .c (.one (.dt .bool .u (decide (cpV p q<0))))) z.1 z.2⟩
theorem WH:WG.OK Tryz.prog:=mkF hmix 22 Tryz.func64 rfl rfl (by decide) [(32,.c q0P)] (fun(p:Rat×Rat×Rat)(q:Rat×Rat×Rat) b hx hp=>qa trivial rfl) (fun(p:Rat×Rat×Rat)(q:Rat×Rat×Rat) hx hp=>by
 refine⟨.nil,kcast (by kernel_rfl) (Sp (cmpQ p.1 q.1≠0) (fun h1=>(by rw[←Sh h1]:decide (cmpQ p.1 q.1<0)=decide (cpV p q<0))) (fun h2=>Sp (cmpQ p.2.1 q.2.1≠0) (fun h3=>(by rw[←Si h2 h3]:decide (cmpQ p.2.1 q.2.1<0)=decide (cpV p q<0))) (fun h4=>Sp (cmpQ p.2.2 q.2.2≠0) (fun h5=>(by rw[←Sj h2 h4 h5]:decide (cmpQ p.2.2 q.2.2<0)=decide (cpV p q<0))) (fun h6=>(by rw[←Sk h2 h4 h6];rfl:false=decide (cpV p q<0))))))⟩)
abbrev WF:Ctr Tryz.prog:=FI.c WH
abbrev Ws:FI:=⟨201,[(.pr .rat (.pr .rat .rat)),(.pr .rat (.pr .rat .rat))],[(.p (.n 2147483648) (.p (.n 2147483648) (.n 2147483648))),(.p (.n 2147483648) (.p (.n 2147483648) (.n 2147483648)))],fun _=>[],fun b z=>(fun(p:Rat×Rat×Rat)(q:Rat×Rat×Rat)=> .c (.one (.dt .bool .u (decide (p=q))))) z.1 z.2⟩
theorem Wt:Ws.OK Tryz.prog:=mkF hmix 9 Tryz.func201 rfl rfl (by decide) [(199,.c OY)] (fun(p:Rat×Rat×Rat)(q:Rat×Rat×Rat) b hx hp=>qa trivial rfl) (fun(p:Rat×Rat×Rat)(q:Rat×Rat×Rat) hx hp=>by
 refine⟨.nil,kcast (by kernel_rfl) ((decide_eq_decide.2 q1c:decide (cpV p q=0)=decide (p=q)))⟩)
abbrev Wq:Ctr Tryz.prog:=FI.c Wt
section
section
variable {a b p:V3} {k:Nat}
theorem Btw.start:Btw a b p 0:=fun j hj=>by omega
theorem Btw.step(h:Btw a b p k)(hk: ¬cmpQ (cm a k) (cm p k)*cmpQ (cm p k) (cm b k)<0):Btw a b p (k+1):=fun j hj=>by
 by_cases e:j=k
 ·subst e;exact hk
 ·exact h j (by omega)
theorem Ys(hk:k<3)(h:cmpQ (cm a k) (cm p k)*cmpQ (cm p k) (cm b k)<0):false=decide (insQ a b p):=
 (decide_eq_false fun e=>(Bw.1 e).1 k hk h).symm
theorem Yt{q:Prop}(h1:cmpQ (cm a k) (cm p k)=0)(h2:cmpQ (cm p k) (cm b k)≠0)(h3:cmpQ (cm a k) (cm b k)=0):q:=by
 have e1:=zy.1 h1;have e3:=zy.1 h3
 exact absurd (zy.2 (e1.symm.trans e3)) h2
theorem Yu(h:decide (a=p)=true):false=decide (insQ a b p):=(decide_eq_false fun e=>(Bw.1 e).2.1 (yd h)).symm
theorem Yv(h:decide (b=p)=true):false=decide (insQ a b p):=(decide_eq_false fun e=>(Bw.1 e).2.2.1 (yd h)).symm
theorem Yw(h:Btw a b p k)(hk: ¬k<3)(h3:k≤3)(h1: ¬decide (a=p)=true)(h2: ¬decide (b=p)=true):decide (qc (subV b a) (subV p a)=(0,0,0))=decide (insQ a b p):=by
 have e:k=3:=by omega
 subst e
 exact decide_eq_decide.2 ⟨fun e=>Bw.2 ⟨h,yd' h1,yd' h2,e⟩,fun e=>(Bw.1 e).2.2.2⟩
theorem Yy(h: ¬decide (qc (subV b a) (subV p a)=(0,0,0))=true):false=decide (insQ a b p):=(decide_eq_false fun e=>yd' h e.1).symm
theorem Yz(h:decide (qc (subV b a) (subV p a)=(0,0,0))=true):decide (sgnQ (dotQ (subV a p) (subV b p))<0)=decide (insQ a b p):=by
 have e:sgnQ (dotQ (subV a p) (subV b p))<0↔dotQ (subV a p) (subV b p)<0:=by rw[SQ];(repeat' split)<;>grind
 exact decide_eq_decide.2 ⟨fun q=>⟨yd h,e.1 q⟩,fun q=>e.2 q.2⟩
end
section
variable {l:List V3} {p:V3} {i m:Nat} {q:Bool}
theorem YS(h:q=(mid2 l p i||mid1 l p i m))(hq:q=true):true=(mid2 l p i||mid1 l p i (m+1)):=by
 rw[mid1,←Bool.or_assoc,←h,hq];rfl
theorem YR(h:q=(mid2 l p i||mid1 l p i m))(hq: ¬q=true):decide (insQ (l.getD i z3) ((l.drop (i+1)).getD m z3) p)=(mid2 l p i||mid1 l p i (m+1)):=by
 have e:q=false:=by cases q<;>simp_all
 rw[mid1,←Bool.or_assoc,←h,e];rfl
theorem YT(h:q=(mid2 l p i||mid1 l p i m))(hm: ¬m<(l.drop (i+1)).length)(hl:m≤(l.drop (i+1)).length):q=mid2 l p (i+1):=by
 rw[mid2,h,show m=(l.drop (i+1)).length by omega]
end
section
variable {l o:List V3} {i k:Nat} {q:Bool}
theorem XO(h:o=jm l i)(hk:q=mid2 l (l.getD i z3) k)(he: ¬k<l.length)(hl:k≤l.length)(hq: ¬(!q)=true):o=jm l (i+1):=by
 have e:k=l.length:=by omega
 subst e
 have:q=true:=by cases q<;>simp_all
 rw[jm,if_pos (by rw[←hk,this]),h]
theorem XN(h:o=jm l i)(hk:q=mid2 l (l.getD i z3) k)(he: ¬k<l.length)(hl:k≤l.length)(hq:(!q)=true):o++[l.getD i z3]=jm l (i+1):=by
 have e:k=l.length:=by omega
 subst e
 have:q=false:=by cases q<;>simp_all
 rw[jm,if_neg (by rw[←hk,this];decide),h]
theorem PN(h:o=jm (qj l) i)(hi: ¬i<(qj l).length)(hl:i≤(qj l).length):o=zl l:=by
 rw[h,show i=(qj l).length by omega];rfl
end
theorem XM{l:List V3}{b:Bd}(h:Bnd (.sl tV3) b l):Bnd (.sl tV3) (.s b.len b.e) (zl l):=q0l h (CR l) fun x hx=>CS hx
theorem WN{l:List V3}{m k:Nat}(hl:l.length≤k)(h: ∀x∈l,Bnd tV3 (bV3 m) x):Bnd (.sl tV3) (.s k (bV3 m)) (qj l):=⟨Nat.le_trans (Dp l) hl,fun x hx=>h x (HF x hx)⟩
theorem GT{l:List V3}{m:Nat}(h: ∀x∈l,Bnd tV3 (bV3 m) x): ∀x∈jP z3 cpV l,Bnd tV3 (bV3 m) x:=fun x hx=>h x ((Do z3 cpV).1 hx)
theorem WX{l:List V3}{m:Nat}(h: ∀x∈l,Bnd tV3 (bV3 m) x): ∀x∈unqF z3 eqV l,Bnd tV3 (bV3 m) x:=RH (P:=fun x=>Bnd tV3 (bV3 m) x) h (z3_b m)
theorem CL{q:V3×Rat}{l:List V3}{k m n:Nat}(hq:Bnd tPl (.p (bV3 k) (.n k)) q)(h: ∀x∈l,Bnd tV3 (bV3 m) x)(hn:12*(k+m)+12≤n): ∀x∈qC q l,Bnd tV3 (bV3 n) x:=fun x hx=>zg (Gi hq h _ x hx) hn
theorem wH(q:V3×Rat)(l:List V3):(qC q l).length≤2*l.length:=wF q l _
theorem q1Z{q:V3×Rat}{k:Nat}(h:Bnd tPl (.p (bV3 k) (.n k)) q):Bnd tPl (.p (bV3 (k+1)) (.n (k+1))) (oppP q):=by
 have:=Mo h;simpa[Bd.mx]using this
theorem MF{a:T3}{m:Nat}(h:Bnd tV3 (bV3 m) a.1∧Bnd tV3 (bV3 m) a.2.1∧Bnd tV3 (bV3 m) a.2.2): ∀x∈[a.1,a.2.1,a.2.2],Bnd tV3 (bV3 m) x:=fun x hx=>by
 simp only[List.mem_cons,List.not_mem_nil,or_false]at hx
 rcases hx with rfl|rfl|rfl
 ·exact h.1
 ·exact h.2.1
 ·exact h.2.2
theorem Kw{a b:T3}{m:Nat}(ha:Bnd tV3 (bV3 m) a.1∧Bnd tV3 (bV3 m) a.2.1∧Bnd tV3 (bV3 m) a.2.2)(hb:Bnd tV3 (bV3 m) b.1∧Bnd tV3 (bV3 m) b.2.1∧Bnd tV3 (bV3 m) b.2.2):(qb a b).length≤96∧ ∀x∈qb a b,Bnd tV3 (bV3 (8000000*m+6000000)) x:=by
 have hp:=E5 hb
 have u1:=up_m (m:=m) hp.1 hb.1 hb.2.1;have u2:=up_m (m:=m) hp.1 hb.2.1 hb.2.2;have u3:=up_m (m:=m) hp.1 hb.2.2 hb.1
 have c1:=CL hp (MF ha) (Nat.le_refl _)
 have c2:=CL (q1Z hp) c1 (Nat.le_refl _)
 have c3:=CL u1 c2 (Nat.le_refl _)
 have c4:=CL u2 c3 (Nat.le_refl _)
 refine⟨?_,CL u3 c4 (by omega)⟩
 unfold qb
 have e1:=wH (qd b) [a.1,a.2.1,a.2.2]
 have e2:=wH (oppP (qd b)) (qC (qd b) [a.1,a.2.1,a.2.2])
 have e3:=wH (upP (qd b) b.1 b.2.1) (qC (oppP (qd b)) (qC (qd b) [a.1,a.2.1,a.2.2]))
 have e4:=wH (upP (qd b) b.2.1 b.2.2) (qC (upP (qd b) b.1 b.2.1) (qC (oppP (qd b)) (qC (qd b) [a.1,a.2.1,a.2.2])))
 have e5:=wH (upP (qd b) b.2.2 b.1) (qC (upP (qd b) b.2.1 b.2.2) (qC (upP (qd b) b.1 b.2.1) (qC (oppP (qd b)) (qC (qd b) [a.1,a.2.1,a.2.2]))))
 simp only[List.length_cons,List.length_nil]at e1
 omega
end
abbrev YU:FI:=⟨202,[(.pr .rat (.pr .rat .rat)),(.pr .rat (.pr .rat .rat)),(.pr .rat (.pr .rat .rat))],[(.p (.n 536870904) (.p (.n 536870904) (.n 536870904))),(.p (.n 536870904) (.p (.n 536870904) (.n 536870904))),(.p (.n 536870904) (.p (.n 536870904) (.n 536870904)))],fun _=>[],fun b z=>(fun(a:Rat×Rat×Rat)(b_:Rat×Rat×Rat)(p:Rat×Rat×Rat)=> .c (.one (.dt .bool .u (decide (insQ a b_ p))))) z.1 z.2.1 z.2.2⟩
theorem YV:YU.OK Tryz.prog:=mkF hmix 66 Tryz.func202 rfl rfl (by decide) [(128,.c Ad),(133,.c BE),(135,.c EW),(136,.c B3),(210,.c Cu)] (fun(a:Rat×Rat×Rat)(b_:Rat×Rat×Rat)(p:Rat×Rat×Rat) b hx hp=>qa trivial rfl) (fun(a:Rat×Rat×Rat)(b_:Rat×Rat×Rat)(p:Rat×Rat×Rat) hx hp=>by
 refine⟨.loop [.s 10 (.nat .i64) (.n 3)] (fun(k:Nat)=>Btw a b_ p k∧k≤3) (fun(k:Nat)=>3-k) (fun(k:Nat)=> .cond (.h 4 1 (.ext zX) (.h 4 2 (.ext (zY .rat (.n 536870904) 3)) (.h 4 4 (.ext zX) (.h 4 5 (.ext (zY .rat (.n 536870904) 3)) (.h 4 8 (.ext zX) (.h 4 9 (.ext (zY .rat (.n 536870904) 3)) (.h 4 11 (.ext zX) (.h 4 12 (.ext (zY .rat (.n 536870904) 3)) (.cond (.nil) (.cond (.cond (.h 5 13 (.ext zX) (.h 5 14 (.ext (zY .rat (.n 536870904) 3)) (.h 5 16 (.ext zX) (.h 5 17 (.ext (zY .rat (.n 536870904) 3)) (.nil))))) (.nil)) (.nil))))))))))) (.nil)),kcast (by kernel_rfl) (I (⟨Btw.start,by omega⟩:Btw a b_ p 0∧0≤3) (fun(k:Nat)(hb1:HB [.s 10 (.nat .i64) (.n 3)] k)(hI:Btw a b_ p k∧k≤3)=>have hv16:=(show k≤3 from hb1);Sp (k<3) (fun h2=>I (?_:k<3) (I (?_:k<3) (I (?_:k<3) (I (?_:k<3) (I (?_:k<3) (I (?_:k<3) (I (?_:k<3) (I (?_:k<3) (Sp ((cmpQ ([a.1,a.2.1,a.2.2].getD k 0) ([p.1,p.2.1,p.2.2].getD k 0))*(cmpQ ([p.1,p.2.1,p.2.2].getD k 0) ([b_.1,b_.2.1,b_.2.2].getD k 0))<0) (fun h3=>(Ys h2 h3:false=decide (insQ a b_ p))) (fun h4=>Sp (cmpQ ([a.1,a.2.1,a.2.2].getD k 0) ([p.1,p.2.1,p.2.2].getD k 0)=0) (fun h5=>Sp (cmpQ ([p.1,p.2.1,p.2.2].getD k 0) ([b_.1,b_.2.1,b_.2.2].getD k 0)≠0) (fun h6=>I (?_:k<3) (I (?_:k<3) (I (?_:k<3) (I (?_:k<3) (Sp (cmpQ ([a.1,a.2.1,a.2.2].getD k 0) ([b_.1,b_.2.1,b_.2.2].getD k 0)=0) (fun h7=>(Yt h5 h6 h7:false=decide (insQ a b_ p))) (fun h8=>I (show(k+1)≤3 by omega:Bnd (.nat .i64) (.n 3) (k+1)) (And.intro (⟨hI.1.step h4,by omega⟩:Btw a b_ p (k+1)∧(k+1)≤3) (?_:3-(k+1)<3-k)))))))) (fun h9=>I (show(k+1)≤3 by omega:Bnd (.nat .i64) (.n 3) (k+1)) (And.intro (⟨hI.1.step h4,by omega⟩:Btw a b_ p (k+1)∧(k+1)≤3) (?_:3-(k+1)<3-k)))) (fun h10=>I (show(k+1)≤3 by omega:Bnd (.nat .i64) (.n 3) (k+1)) (And.intro (⟨hI.1.step h4,by omega⟩:Btw a b_ p (k+1)∧(k+1)≤3) (?_:3-(k+1)<3-k))))))))))))) (fun h11=>Sp (decide (a=p)=true) (fun h12=>(Yu h12:false=decide (insQ a b_ p))) (fun h13=>Sp (decide (b_=p)=true) (fun h14=>(Yv h14:false=decide (insQ a b_ p))) (fun h15=>(Yw hI.1 h11 hI.2 h13 h15:decide ((qc (subV b_ a) (subV p a))=(0,0,0))=decide (insQ a b_ p)))))))⟩<;>omega)
abbrev NW:Ctr Tryz.prog:=FI.c YV
abbrev ZW:FI:=⟨63,[(.pr .rat (.pr .rat .rat)),(.pr .rat (.pr .rat .rat)),(.pr .rat (.pr .rat .rat))],[(.p (.n 536870904) (.p (.n 536870904) (.n 536870904))),(.p (.n 536870904) (.p (.n 536870904) (.n 536870904))),(.p (.n 536870904) (.p (.n 536870904) (.n 536870904)))],fun _=>[],fun b z=>(fun(a:Rat×Rat×Rat)(b_:Rat×Rat×Rat)(p:Rat×Rat×Rat)=> .c (.one (.dt .bool .u (decide (insQ a b_ p))))) z.1 z.2.1 z.2.2⟩
theorem ZX:ZW.OK Tryz.prog:=mkF hmix 26 Tryz.func63 rfl rfl (by decide) [(16,.c H4),(25,.c BN),(33,.c BM),(118,.c B4),(126,.c JO)] (fun(a:Rat×Rat×Rat)(b_:Rat×Rat×Rat)(p:Rat×Rat×Rat) b hx hp=>qa trivial rfl) (fun(a:Rat×Rat×Rat)(b_:Rat×Rat×Rat)(p:Rat×Rat×Rat) hx hp=>by
 refine⟨.nil,kcast (by kernel_rfl) (Sp (decide ((qc (subV b_ a) (subV p a))=(0,0,0))=true) (fun h1=>(Yz h1:decide (sgnQ (dotQ (subV a p) (subV b_ p))<0)=decide (insQ a b_ p))) (fun h2=>(Yy h2:false=decide (insQ a b_ p))))⟩)
abbrev OR:Ctr Tryz.prog:=FI.c ZX
abbrev Vu:FI:=⟨123,[(.sl (.pr .rat (.pr .rat .rat))),(.pr (.pr .rat (.pr .rat .rat)) .rat)],[(.s 128 (.p (.n 67108864) (.p (.n 67108864) (.n 67108864)))),(.p (.p (.n 16777216) (.p (.n 16777216) (.n 16777216))) (.n 16777216))],fun _=>[],fun b z=>(fun(l:List (Rat×Rat×Rat))(q:(Rat×Rat×Rat)×Rat)=> .c (.one (.dt (.sl tV3) (.s (2*(b0 b).len) (bV3 (12*((b1 b).mx+(b0 b).mx)+12))) (qC q l)))) z.1 z.2⟩
theorem Vv:Vu.OK Tryz.prog:=mkF hmix 51 Tryz.func123 rfl rfl (by decide) [(188,.c Vx),(195,.c Qs)] (fun(l:List (Rat×Rat×Rat))(q:(Rat×Rat×Rat)×Rat) b hx hp=>qa (Na (Bnds.h2 hx).1 (Bnds.h2 hx).2) rfl) (fun(l:List (Rat×Rat×Rat))(q:(Rat×Rat×Rat)×Rat) hx hp=>by
 have hl0:l.length≤128:=hx.1.1
 refine⟨.loop [.s 13 (.nat .i64) (.n 128),.g 5 90001 (.pr .rat (.pr .rat .rat)) (.p (.n 2147483648) (.p (.n 2147483648) (.n 2147483648))) 256] (fun((i,o):Nat×List (Rat×Rat×Rat))=>o=qR q l i∧i≤l.length) (fun((i,o):Nat×List (Rat×Rat×Rat))=>l.length-i) (fun((i,o):Nat×List (Rat×Rat×Rat))=> .cond (.cond (.h 8 2 (.mk (.im (.pr .rat (.pr .rat .rat)) (.p (.n 2147483648) (.p (.n 2147483648) (.n 2147483648))))) (.cond (.h 10 5 (.mk (.im (.pr .rat (.pr .rat .rat)) (.p (.n 2147483648) (.p (.n 2147483648) (.n 2147483648))))) (.nil)) (.nil))) (.cond (.h 10 5 (.mk (.im (.pr .rat (.pr .rat .rat)) (.p (.n 2147483648) (.p (.n 2147483648) (.n 2147483648))))) (.nil)) (.nil))) (.pre 999999 (.frz 90001 true [4]) (.nil))),kcast (by kernel_rfl) (I (rfl:0=([]:List (Rat×Rat×Rat)).length) (I (⟨rfl,Nat.zero_le _⟩:([]:List (Rat×Rat×Rat))=qR q l 0∧0≤l.length) (fun(i:Nat)(o:List (Rat×Rat×Rat))(hb1:HB [.s 13 (.nat .i64) (.n 128),.g 5 90001 (.pr .rat (.pr .rat .rat)) (.p (.n 2147483648) (.p (.n 2147483648) (.n 2147483648))) 256] (i,o))(hI:o=qR q l i∧i≤l.length)=>have hv10:=(show i≤128 from hb1.1);have hv11:=(show o.length≤256 from hb1.2.1);have hIi:=hI.2;have hol:=(show o.length≤2*i from by rw[hI.1];exact wF q l i);Sp (i<l.length) (fun h2=>I (?_:i<l.length) (I (?_:0<l.length) (I (Nat.mod_lt _ (by omega):(i+1)%l.length<l.length) (Sp (cmpQ (dotQ q.1 (l.getD i (0,(0,0)))) q.2≤0) (fun h3=>I (?_:o.length=o.length) (Sp ((cmpQ (dotQ q.1 (l.getD i (0,(0,0)))) q.2)*(cmpQ (dotQ q.1 (l.getD ((i+1)%l.length) (0,(0,0)))) q.2)<0) (fun h4=>I (by(try simp only[List.length_append,List.length_cons,List.length_nil])<;>omega:o.length+[l.getD i (0,(0,0))].length=(o++[l.getD i (0,(0,0))]).length) (I (show(i+1)≤128 by omega:Bnd (.nat .i64) (.n 128) (i+1)) (I (by(try simp only[List.length_append,List.length_cons,List.length_nil])<;>omega:(o.length+[l.getD i (0,(0,0))].length)+[crsV q (l.getD i (0,(0,0))) (l.getD ((i+1)%l.length) (0,(0,0)))].length=((o++[l.getD i (0,(0,0))])++[crsV q (l.getD i (0,(0,0))) (l.getD ((i+1)%l.length) (0,(0,0)))]).length) (I (by(try simp only[List.length_append,List.length_cons,List.length_nil])<;>omega:(o.length+[l.getD i (0,(0,0))].length)+[crsV q (l.getD i (0,(0,0))) (l.getD ((i+1)%l.length) (0,(0,0)))].length≤256) (And.intro (⟨KB hI.1 h3 h4,by omega⟩:((o++[l.getD i (0,(0,0))])++[crsV q (l.getD i (0,(0,0))) (l.getD ((i+1)%l.length) (0,(0,0)))])=qR q l (i+1)∧(i+1)≤l.length) (?_:l.length-(i+1)<l.length-i)))))) (fun h5=>I (show(i+1)≤128 by omega:Bnd (.nat .i64) (.n 128) (i+1)) (I (by(try simp only[List.length_append,List.length_cons,List.length_nil])<;>omega:o.length+[l.getD i (0,(0,0))].length=(o++[l.getD i (0,(0,0))]).length) (I (by(try simp only[List.length_append,List.length_cons,List.length_nil])<;>omega:o.length+[l.getD i (0,(0,0))].length≤256) (And.intro (⟨KA hI.1 h3 h5,by omega⟩:(o++[l.getD i (0,(0,0))])=qR q l (i+1)∧(i+1)≤l.length) (?_:l.length-(i+1)<l.length-i))))))) (fun h6=>Sp ((cmpQ (dotQ q.1 (l.getD i (0,(0,0)))) q.2)*(cmpQ (dotQ q.1 (l.getD ((i+1)%l.length) (0,(0,0)))) q.2)<0) (fun h7=>I (?_:o.length=o.length) (I (show(i+1)≤128 by omega:Bnd (.nat .i64) (.n 128) (i+1)) (I (by(try simp only[List.length_append,List.length_cons,List.length_nil])<;>omega:o.length+[crsV q (l.getD i (0,(0,0))) (l.getD ((i+1)%l.length) (0,(0,0)))].length=(o++[crsV q (l.getD i (0,(0,0))) (l.getD ((i+1)%l.length) (0,(0,0)))]).length) (I (by(try simp only[List.length_append,List.length_cons,List.length_nil])<;>omega:o.length+[crsV q (l.getD i (0,(0,0))) (l.getD ((i+1)%l.length) (0,(0,0)))].length≤256) (And.intro (⟨Kz hI.1 h6 h7,by omega⟩:(o++[crsV q (l.getD i (0,(0,0))) (l.getD ((i+1)%l.length) (0,(0,0)))])=qR q l (i+1)∧(i+1)≤l.length) (?_:l.length-(i+1)<l.length-i)))))) (fun h8=>I (show(i+1)≤128 by omega:Bnd (.nat .i64) (.n 128) (i+1)) (I (?_:o.length=o.length) (And.intro (⟨Ky hI.1 h6 h8,by omega⟩:o=qR q l (i+1)∧(i+1)≤l.length) (?_:l.length-(i+1)<l.length-i))))))))) (fun h9=>I (?_:o.length=o.length) ((by rw[hI.1,show i=l.length by omega];rfl:o=qC q l))))))⟩<;>omega)
abbrev Vt:Ctr Tryz.prog:=FI.c Vv
abbrev VS:FI:=⟨60,[(.sl (.pr .rat (.pr .rat .rat))),(.pr (.pr .rat (.pr .rat .rat)) .rat)],[(.s 128 (.p (.n 67108864) (.p (.n 67108864) (.n 67108864)))),(.p (.p (.n 16777216) (.p (.n 16777216) (.n 16777216))) (.n 16777216))],fun _=>[],fun b z=>(fun(l:List (Rat×Rat×Rat))(q:(Rat×Rat×Rat)×Rat)=> .c (.one (.dt (.sl tV3) (.s (2*(b0 b).len) (bV3 (12*((b1 b).mx+(b0 b).mx)+12))) (qC q l)))) z.1 z.2⟩
theorem VT:VS.OK Tryz.prog:=mkF hmix 53 Tryz.func60 rfl rfl (by decide) [(85,.c RQ),(127,.c VO)] (fun(l:List (Rat×Rat×Rat))(q:(Rat×Rat×Rat)×Rat) b hx hp=>qa (Na (Bnds.h2 hx).1 (Bnds.h2 hx).2) rfl) (fun(l:List (Rat×Rat×Rat))(q:(Rat×Rat×Rat)×Rat) hx hp=>by
 have hl0:l.length≤128:=hx.1.1
 refine⟨.loop [.s 6 (.nat .i64) (.n 128),.g 5 90001 (.pr .rat (.pr .rat .rat)) (.p (.n 2147483648) (.p (.n 2147483648) (.n 2147483648))) 256] (fun((i,o):Nat×List (Rat×Rat×Rat))=>o=qR q l i∧i≤l.length) (fun((i,o):Nat×List (Rat×Rat×Rat))=>l.length-i) (fun((i,o):Nat×List (Rat×Rat×Rat))=> .cond (.cond (.h 8 2 (.mk (.im (.pr .rat (.pr .rat .rat)) (.p (.n 2147483648) (.p (.n 2147483648) (.n 2147483648))))) (.cond (.h 10 5 (.mk (.im (.pr .rat (.pr .rat .rat)) (.p (.n 2147483648) (.p (.n 2147483648) (.n 2147483648))))) (.nil)) (.nil))) (.cond (.h 10 5 (.mk (.im (.pr .rat (.pr .rat .rat)) (.p (.n 2147483648) (.p (.n 2147483648) (.n 2147483648))))) (.nil)) (.nil))) (.pre 999999 (.frz 90001 true [4]) (.nil))),kcast (by kernel_rfl) (I (rfl:0=([]:List (Rat×Rat×Rat)).length) (I (⟨rfl,Nat.zero_le _⟩:([]:List (Rat×Rat×Rat))=qR q l 0∧0≤l.length) (fun(i:Nat)(o:List (Rat×Rat×Rat))(hb1:HB [.s 6 (.nat .i64) (.n 128),.g 5 90001 (.pr .rat (.pr .rat .rat)) (.p (.n 2147483648) (.p (.n 2147483648) (.n 2147483648))) 256] (i,o))(hI:o=qR q l i∧i≤l.length)=>have hv10:=(show i≤128 from hb1.1);have hv11:=(show o.length≤256 from hb1.2.1);have hIi:=hI.2;have hol:=(show o.length≤2*i from by rw[hI.1];exact wF q l i);Sp (i<l.length) (fun h2=>I (?_:i<l.length) (I (?_:0<l.length) (I (Nat.mod_lt _ (by omega):(i+1)%l.length<l.length) (Sp (cmpQ (dotQ q.1 (l.getD i (0,(0,0)))) q.2≤0) (fun h3=>I (?_:o.length=o.length) (Sp ((cmpQ (dotQ q.1 (l.getD i (0,(0,0)))) q.2)*(cmpQ (dotQ q.1 (l.getD ((i+1)%l.length) (0,(0,0)))) q.2)<0) (fun h4=>I (by(try simp only[List.length_append,List.length_cons,List.length_nil])<;>omega:o.length+[l.getD i (0,(0,0))].length=(o++[l.getD i (0,(0,0))]).length) (I (show(i+1)≤128 by omega:Bnd (.nat .i64) (.n 128) (i+1)) (I (by(try simp only[List.length_append,List.length_cons,List.length_nil])<;>omega:(o.length+[l.getD i (0,(0,0))].length)+[crsV q (l.getD i (0,(0,0))) (l.getD ((i+1)%l.length) (0,(0,0)))].length=((o++[l.getD i (0,(0,0))])++[crsV q (l.getD i (0,(0,0))) (l.getD ((i+1)%l.length) (0,(0,0)))]).length) (I (by(try simp only[List.length_append,List.length_cons,List.length_nil])<;>omega:(o.length+[l.getD i (0,(0,0))].length)+[crsV q (l.getD i (0,(0,0))) (l.getD ((i+1)%l.length) (0,(0,0)))].length≤256) (And.intro (⟨KB hI.1 h3 h4,by omega⟩:((o++[l.getD i (0,(0,0))])++[crsV q (l.getD i (0,(0,0))) (l.getD ((i+1)%l.length) (0,(0,0)))])=qR q l (i+1)∧(i+1)≤l.length) (?_:l.length-(i+1)<l.length-i)))))) (fun h5=>I (show(i+1)≤128 by omega:Bnd (.nat .i64) (.n 128) (i+1)) (I (by(try simp only[List.length_append,List.length_cons,List.length_nil])<;>omega:o.length+[l.getD i (0,(0,0))].length=(o++[l.getD i (0,(0,0))]).length) (I (by(try simp only[List.length_append,List.length_cons,List.length_nil])<;>omega:o.length+[l.getD i (0,(0,0))].length≤256) (And.intro (⟨KA hI.1 h3 h5,by omega⟩:(o++[l.getD i (0,(0,0))])=qR q l (i+1)∧(i+1)≤l.length) (?_:l.length-(i+1)<l.length-i))))))) (fun h6=>Sp ((cmpQ (dotQ q.1 (l.getD i (0,(0,0)))) q.2)*(cmpQ (dotQ q.1 (l.getD ((i+1)%l.length) (0,(0,0)))) q.2)<0) (fun h7=>I (?_:o.length=o.length) (I (show(i+1)≤128 by omega:Bnd (.nat .i64) (.n 128) (i+1)) (I (by(try simp only[List.length_append,List.length_cons,List.length_nil])<;>omega:o.length+[crsV q (l.getD i (0,(0,0))) (l.getD ((i+1)%l.length) (0,(0,0)))].length=(o++[crsV q (l.getD i (0,(0,0))) (l.getD ((i+1)%l.length) (0,(0,0)))]).length) (I (by(try simp only[List.length_append,List.length_cons,List.length_nil])<;>omega:o.length+[crsV q (l.getD i (0,(0,0))) (l.getD ((i+1)%l.length) (0,(0,0)))].length≤256) (And.intro (⟨Kz hI.1 h6 h7,by omega⟩:(o++[crsV q (l.getD i (0,(0,0))) (l.getD ((i+1)%l.length) (0,(0,0)))])=qR q l (i+1)∧(i+1)≤l.length) (?_:l.length-(i+1)<l.length-i)))))) (fun h8=>I (show(i+1)≤128 by omega:Bnd (.nat .i64) (.n 128) (i+1)) (I (?_:o.length=o.length) (And.intro (⟨Ky hI.1 h6 h8,by omega⟩:o=qR q l (i+1)∧(i+1)≤l.length) (?_:l.length-(i+1)<l.length-i))))))))) (fun h9=>I (?_:o.length=o.length) ((by rw[hI.1,show i=l.length by omega];rfl:o=qC q l))))))⟩<;>omega)
abbrev VR:Ctr Tryz.prog:=FI.c VT
abbrev QV:FO:=⟨197,[(.sl (.pr .rat (.pr .rat .rat)))],[(.s 255 (.p (.n 536870904) (.p (.n 536870904) (.n 536870904))))],fun _=>[],fun k b z=>(fun(l:List (Rat×Rat×Rat))=> .c (.one (.gs k (l.length) 9 ((b0 b).len)))) z,fun b z=>(fun(l:List (Rat×Rat×Rat))=> .gro (.pr .rat (.pr .rat .rat)) ((b0 b).e) (l)) z⟩
theorem QW:QV.OK Tryz.prog:=mkO hmix 8 7 Tryz.func197 rfl rfl (by decide) [] (fun _=>rfl) (fun _ _ _=>rfl) (fun _ _=>rfl) (fun _ _ _=>⟨rfl,rfl⟩) (fun(l:List (Rat×Rat×Rat)) k b hx hp=>⟨qa (Bnds.h1 hx).sl.1 rfl,(Bnds.h1 hx).sl.2⟩) (fun(l:List (Rat×Rat×Rat)) hx hp=>by
 refine bodyO.g (.cond (.nil) (.h 3 0 (.mk (.gro (.pr .rat (.pr .rat .rat)) (.p (.n 536870904) (.p (.n 536870904) (.n 536870904))))) (.nil))) (kcast (by kernel_rfl) (And.intro (fun(h1:l=[])=>And.intro (h1.symm:([]:List (Rat×Rat×Rat))=l) ((by rw[h1];rfl:0=l.length))) (I (rfl:0=([]:List (Rat×Rat×Rat)).length) (And.intro (rfl:([]:List (Rat×Rat×Rat))++l=l) ((Nat.zero_add _:0+l.length=l.length)))))))
abbrev QU:CtrO Tryz.prog:=FO.c QW
abbrev Um:FV:=⟨284,true,(.pr .rat (.pr .rat .rat)),(.p (.n 536870904) (.p (.n 536870904) (.n 536870904))),255,[(.nat .i64),(.nat .i64),(.fn 199)],[(.n 255),(.n 255),.u],fun l lo n cap z=>(fun(a:Nat)(b_:Nat)(u:Unit)=>[a=0,b_=l.length,n=l.length]) z.1 z.2.1 z.2.2,fun k b l lo n cap z=>v6,fun l lo n cap z=>jP z3 cpV l⟩
theorem Un:Um.OK Tryz.prog:=mkSl hmix 53 Tryz.func284 rfl rfl (by decide) [(199,.c OY)] (fun _=>rfl) (fun _ _ _ _ _=>rfl) (fun _ _ _ _ _ _ _=>rfl) (fun _ _ _ _ _ _=>rfl) (fun(l:List (Rat×Rat×Rat))(lo n cap:Nat)(a:Nat)(b_:Nat)(u:Unit) k b hx hs hn(hm:n≤255) hp=>⟨zj,GT hs⟩) (fun(l:List (Rat×Rat×Rat))(lo n cap:Nat)(a:Nat)(b_:Nat)(u:Unit) hs hx hn(hm:n≤255) hp=>by
 have hx0:a≤255:=hx.1
 have hx1:b_≤255:=hx.2.1
 have hp0:a=0:=hp _ (List.mem_cons_self)
 have hp1:b_=l.length:=hp _ (List.mem_cons_of_mem _ (List.mem_cons_self))
 have hp2:n=l.length:=hp _ (List.mem_cons_of_mem _ (List.mem_cons_of_mem _ (List.mem_cons_self)))
 refine⟨.loop [.s 8 (.nat .i64) (.n 256),.bk 100000 (.pr .rat (.pr .rat .rat)) (.p (.n 536870904) (.p (.n 536870904) (.n 536870904)))] (fun((i,m):Nat×List (Rat×Rat×Rat))=>(1≤l.length→SoO z3 cpV l m i)∧1≤i∧(¬1≤l.length→m=l)) (fun((i,m):Nat×List (Rat×Rat×Rat))=>l.length-i) (fun((i,m):Nat×List (Rat×Rat×Rat))=> .cond (.loop [.s 9 (.nat .i64) (.n 256),.bk 100000 (.pr .rat (.pr .rat .rat)) (.p (.n 536870904) (.p (.n 536870904) (.n 536870904)))] (fun((j,m2):Nat×List (Rat×Rat×Rat))=>SoI z3 cpV l m2 i j) (fun((j,m2):Nat×List (Rat×Rat×Rat))=>j) (fun((j,m2):Nat×List (Rat×Rat×Rat))=> .cond (.h 4 11 (.i .sub) (.cond (.h 6 4 (.i .sub) (.h 6 7 (.i .sub) (.h 5 1 (.i .sub) (.nil)))) (.nil))) (.nil))) (.nil)),kcast (by kernel_rfl) (I (⟨fun h=>by rw[hp0];exact SoO.start h,by omega,fun _=>rfl⟩:(1≤l.length→SoO z3 cpV l l (a+1))∧1≤(a+1)∧(¬1≤l.length→l=l)) (fun(i:Nat)(m:List (Rat×Rat×Rat))(hb1:HB [.s 8 (.nat .i64) (.n 256),.bk 100000 (.pr .rat (.pr .rat .rat)) (.p (.n 536870904) (.p (.n 536870904) (.n 536870904)))] (i,m))(hI:(1≤l.length→SoO z3 cpV l m i)∧1≤i∧(¬1≤l.length→m=l))=>have hv10:=(show i≤256 from hb1.1);have hi1:=hI.2.1;Sp (i<b_) (fun h2=>I ((hI.1 (by omega)).inner (by omega):SoI z3 cpV l m i i) (fun(j:Nat)(m2:List (Rat×Rat×Rat))(hb3:HB [.s 9 (.nat .i64) (.n 256),.bk 100000 (.pr .rat (.pr .rat .rat)) (.p (.n 536870904) (.p (.n 536870904) (.n 536870904)))] (j,m2))(hJ:SoI z3 cpV l m2 i j)=>have hv8:=(show j≤256 from hb3.1);have hJj:=hJ.hj;have hJl:=hJ.len;have hJi:=hJ.hi;Sp (a<j) (fun h4=>I (?_:j<n) (I (?_:j<m2.length) (I (?_:1≤j) (I (?_:j-1<n) (I (?_:j-1<m2.length) (Sp (cpV (m2.getD j (0,(0,0))) (m2.getD (j-1) (0,(0,0)))<0) (fun h5=>I (?_:1≤j) (I (?_:1≤j) (I (?_:j-1<n) (I (?_:j-1<m2.length) (I (?_:j<n) (I (?_:j<m2.length) (I (?_:j<n) (I (?_:j<m2.length) (I (?_:j-1<n) (I (by simp only[List.length_set];omega:j-1<(m2.set j (m2.getD (j-1) (0,(0,0)))).length) (I (?_:1≤j) (And.intro (hJ.step (by omega) h5:SoI z3 cpV l ((m2.set j (m2.getD (j-1) (0,(0,0)))).set (j-1) (m2.getD j (0,(0,0)))) i (j-1)) (?_:(j-1)<j))))))))))))) (fun h6=>I (show(i+1)≤256 by omega:Bnd (.nat .i64) (.n 256) (i+1)) (And.intro (⟨fun _=>hJ.stop (.inr h6),by omega,fun h=>absurd h (by omega)⟩:(1≤l.length→SoO z3 cpV l m2 (i+1))∧1≤(i+1)∧(¬1≤l.length→m2=l)) (?_:l.length-(i+1)<l.length-i))))))))) (fun h7=>I (show(i+1)≤256 by omega:Bnd (.nat .i64) (.n 256) (i+1)) (And.intro (⟨fun _=>hJ.stop (.inl (by omega)),by omega,fun h=>absurd h (by omega)⟩:(1≤l.length→SoO z3 cpV l m2 (i+1))∧1≤(i+1)∧(¬1≤l.length→m2=l)) (?_:l.length-(i+1)<l.length-i))))) (fun h9=>And.intro (by
 by_cases h0:1≤l.length
 ·exact(hI.1 h0).fin (by omega)
 ·rw[hI.2.2 h0];exact RC h0:m=jP z3 cpV l) (trivial))))⟩<;>omega)
abbrev Ul:CtrS Tryz.prog:=FV.c Un
abbrev Qe:FI:=⟨292,[(.nat .u64)],[(.n 255)],fun _=>[],fun b z=>(fun(x:Nat)=> .c (.one (.dt (.nat .i64) (.n (Nat.log2 (b0 b).nb+1)) (bl x)))) z⟩
theorem Qf:Qe.OK Tryz.prog:=mkF hmix 25 Tryz.func292 rfl rfl (by decide) [] (fun(x:Nat) b hx hp=>qa (Iq (Bnds.h1 hx).nat) rfl) (fun(x:Nat) hx hp=>by
 have hx0:x≤255:=hx
 have hx9:x<256:=Nat.lt_succ_of_le hx
 refine⟨.cond (.dead) (.cond (.dead) (.cond (.dead) (.h 10 3 (.any [.c (.one (.vl (.string tab8))),.c (.one (.dt (.nat .u8) (.n 255) x))] (.c (.one (.dt (.nat .u8) (.n 8) (bl x)))) (qa (bl_8 hx9) rfl) (Op.index 9 (.const (.string tab8)) (.tmp 21)) (fun _=>Bu (j:=x) (by kernel_rfl) rfl hx9 (by kernel_rfl))) (.nil)))),kcast (by kernel_rfl) (Sp (4294967296≤x) (fun h1=>(?_:False)) (fun h2=>Sp (65536≤x) (fun h3=>(?_:False)) (fun h4=>Sp (256≤x) (fun h5=>(?_:False)) (fun h6=>I (rfl:([.c (.one (.vl (.string tab8))),.c (.one (.dt (.nat .u8) (.n 255) x))]:List WV)=[.c (.one (.vl (.string tab8))),.c (.one (.dt (.nat .u8) (.n 255) x))]) (I (rfl:(Op.index 9 (.const (.string tab8)) (.tmp 21):Op)=Op.index 9 (.const (.string tab8)) (.tmp 21)) ((?_:0+(bl x)=bl x)))))))⟩<;>omega)
abbrev Qd:Ctr Tryz.prog:=FI.c Qf
abbrev YE:FI:=⟨258,[(.nat .u64)],[(.n 255)],fun _=>[],fun b z=>(fun(x:Nat)=> .c (.one (.dt (.nat .i64) (.n (Nat.log2 (b0 b).nb+1)) (bl x)))) z⟩
theorem YF:YE.OK Tryz.prog:=mkF hmix 8 Tryz.func258 rfl rfl (by decide) [(292,.c Qd)] (fun(x:Nat) b hx hp=>qa (Iq (Bnds.h1 hx).nat) rfl) (fun(x:Nat) hx hp=>by
 refine⟨.nil,kcast (by kernel_rfl) ((Eq.refl (bl x)))⟩)
abbrev YD:Ctr Tryz.prog:=FI.c YF
abbrev VE:FV:=⟨257,true,(.pr .rat (.pr .rat .rat)),(.p (.n 536870904) (.p (.n 536870904) (.n 536870904))),255,[(.nat .i64),(.nat .i64),(.nat .i64),(.fn 199)],[(.n 255),(.n 255),(.n 64),.u],fun l lo n cap z=>(fun(a:Nat)(b_:Nat)(w:Nat)(u:Unit)=>[a=0,b_=l.length,l.length≤12,n=l.length]) z.1 z.2.1 z.2.2.1 z.2.2.2,fun k b l lo n cap z=>v6,fun l lo n cap z=>jP z3 cpV l⟩
theorem VF:VE.OK Tryz.prog:=mkSl hmix 148 Tryz.func257 rfl rfl (by decide) [(284,.s Ul)] (fun _=>rfl) (fun _ _ _ _ _=>rfl) (fun _ _ _ _ _ _ _=>rfl) (fun _ _ _ _ _ _=>rfl) (fun(l:List (Rat×Rat×Rat))(lo n cap:Nat)(a:Nat)(b_:Nat)(w:Nat)(u:Unit) k b hx hs hn(hm:n≤255) hp=>⟨zj,GT hs⟩) (fun(l:List (Rat×Rat×Rat))(lo n cap:Nat)(a:Nat)(b_:Nat)(w:Nat)(u:Unit) hs hx hn(hm:n≤255) hp=>by
 have hx0:a≤255:=hx.1
 have hx1:b_≤255:=hx.2.1
 have hx2:w≤64:=hx.2.2.1
 have hp0:a=0:=hp _ (List.mem_cons_self)
 have hp1:b_=l.length:=hp _ (List.mem_cons_of_mem _ (List.mem_cons_self))
 have hp2:l.length≤12:=hp _ (List.mem_cons_of_mem _ (List.mem_cons_of_mem _ (List.mem_cons_self)))
 have hp3:n=l.length:=hp _ (List.mem_cons_of_mem _ (List.mem_cons_of_mem _ (List.mem_cons_of_mem _ (List.mem_cons_self))))
 refine⟨.h 2 2 (.i .sub) (.cond (.nil) (.dead)),kcast (by kernel_rfl) (I (?_:a≤b_) (Sp (b_-a≤12) (fun h1=>I (?_:a=0) (I (?_:b_=l.length) (I (?_:n=l.length) (And.intro (Eq.refl (jP z3 cpV l)) (trivial))))) (fun h2=>(?_:False))))⟩<;>omega)
abbrev VD:CtrS Tryz.prog:=FV.c VF
abbrev TY:FV:=⟨198,true,(.pr .rat (.pr .rat .rat)),(.p (.n 536870904) (.p (.n 536870904) (.n 536870904))),255,[(.fn 199)],[.u],fun l lo n cap z=>[l.length≤12,n=l.length],fun k b l lo n cap z=>v6,fun l lo n cap z=>jP z3 cpV l⟩
theorem TZ:TY.OK Tryz.prog:=mkSl hmix 14 Tryz.func198 rfl rfl (by decide) [(257,.s VD),(258,.c YD)] (fun _=>rfl) (fun _ _ _ _ _=>rfl) (fun _ _ _ _ _ _ _=>rfl) (fun _ _ _ _ _ _=>rfl) (fun(l:List (Rat×Rat×Rat))(lo n cap:Nat)(u:Unit) k b hx hs hn(hm:n≤255) hp=>⟨zj,GT hs⟩) (fun(l:List (Rat×Rat×Rat))(lo n cap:Nat)(u:Unit) hs hx hn(hm:n≤255) hp=>by
 have hp0:l.length≤12:=hp _ (List.mem_cons_self)
 have hp1:n=l.length:=hp _ (List.mem_cons_of_mem _ (List.mem_cons_self))
 refine⟨.nil,kcast (by kernel_rfl) (I (Eq.refl 0) (I (hp1:n=l.length) (I (hp0:l.length≤12) (I (hp1:n=l.length) (And.intro (Eq.refl (jP z3 cpV l)) (trivial))))))⟩)
abbrev TX:CtrS Tryz.prog:=FV.c TZ
abbrev Mq:FV:=⟨200,true,(.pr .rat (.pr .rat .rat)),(.p (.n 536870904) (.p (.n 536870904) (.n 536870904))),255,[(.fn 201)],[.u],fun l lo n cap z=>[n=l.length],fun k b l lo n cap z=> .c (.one (.gs k (unqD z3 eqV l).length 9 255)),fun l lo n cap z=>unqF z3 eqV l⟩
theorem Mr:Mq.OK Tryz.prog:=mkSl hmix 66 Tryz.func200 rfl rfl (by decide) [(201,.c Wq)] (fun _=>rfl) (fun _ _ _ _ _=>rfl) (fun _ _ _ _ _ _ _=>rfl) (fun _ _ _ _ _ _=>rfl) (fun(l:List (Rat×Rat×Rat))(lo n cap:Nat)(u:Unit) k b hx hs hn(hm:n≤255) hp=>⟨qa (show(unqD z3 eqV l).length≤255 from by have:=Ee (d:=z3) (e:=eqV) (l:=l);have h0:=hp _ List.mem_cons_self;omega) rfl,WX hs⟩) (fun(l:List (Rat×Rat×Rat))(lo n cap:Nat)(u:Unit) hs hx hn(hm:n≤255) hp=>by
 have hp0:n=l.length:=hp _ (List.mem_cons_self)
 refine⟨.cond (.nil) (.loop [.s 5 (.nat .i64) (.n 1048576),.bk 100000 (.pr .rat (.pr .rat .rat)) (.p (.n 536870904) (.p (.n 536870904) (.n 536870904)))] (fun((f,m0):Nat×List (Rat×Rat×Rat))=>m0=l∧CmO z3 eqV m0 f) (fun((f,m0):Nat×List (Rat×Rat×Rat))=>n-f) (fun((f,m0):Nat×List (Rat×Rat×Rat))=> .cond (.h 6 7 (.i .sub) (.cond (.loop [.s 7 (.nat .i64) (.n 1048576),.s 5 (.nat .i64) (.n 1048576),.bk 100000 (.pr .rat (.pr .rat .rat)) (.p (.n 536870904) (.p (.n 536870904) (.n 536870904)))] (fun((q,j,m):Nat×Nat×List (Rat×Rat×Rat))=>CmI z3 eqV l m j (f+q)∧1≤q) (fun((q,j,m):Nat×Nat×List (Rat×Rat×Rat))=>n-f-q) (fun((q,j,m):Nat×Nat×List (Rat×Rat×Rat))=> .cond (.h 11 7 (.i .sub) (.nil)) (.nil))) (.nil))) (.nil))),kcast (by kernel_rfl) (Sp (n<2) (fun h1=>And.intro (HI (G1 (by omega)):l=unqF z3 eqV l) ((by rw[G1 (by omega)];exact hp0:n=(unqD z3 eqV l).length))) (fun h2=>I (⟨rfl,CmO.start (by omega)⟩:l=l∧CmO z3 eqV l 1) (fun(f:Nat)(m0:List (Rat×Rat×Rat))(hb3:HB [.s 5 (.nat .i64) (.n 1048576),.bk 100000 (.pr .rat (.pr .rat .rat)) (.p (.n 536870904) (.p (.n 536870904) (.n 536870904)))] (f,m0))(hI:m0=l∧CmO z3 eqV m0 f)=>have hv15:=(show f≤1048576 from hb3.1);have hml:=(show m0.length=n from by rw[hI.1];exact hp0.symm);have hf1:=hI.2.h1;have hf2:=hI.2.hl;Sp (f<n) (fun h4=>I (?_:f<n) (I (?_:f<m0.length) (I (?_:1≤f) (I (?_:f-1<n) (I (?_:f-1<m0.length) (Sp (decide ((m0.getD f (0,(0,0)))=(m0.getD (f-1) (0,(0,0))))=true) (fun h5=>I (?_:f≤n) (I (?_:n≤m0.length) (I (⟨by have h:=CmI.start hI.2 (by omega) h5;have e:=hI.1;subst e;exact h,Nat.le_refl 1⟩:CmI z3 eqV l m0 f (f+1)∧1≤1) (fun(q:Nat)(j:Nat)(m:List (Rat×Rat×Rat))(hb6:HB [.s 7 (.nat .i64) (.n 1048576),.s 5 (.nat .i64) (.n 1048576),.bk 100000 (.pr .rat (.pr .rat .rat)) (.p (.n 536870904) (.p (.n 536870904) (.n 536870904)))] (q,j,m))(hJ:CmI z3 eqV l m j (f+q)∧1≤q)=>have hv11:=(show q≤1048576 from hb6.1);have hv12:=(show j≤1048576 from hb6.2.1);have hjl:=hJ.1.hl;have hj1:=hJ.1.hk;have hj2:=hJ.1.hi;have hj3:=hJ.2;Sp (q<n-f) (fun h7=>I (?_:q<n-f) (I (?_:f+q<m.length) (I (?_:1≤q) (I (?_:q-1<n-f) (I (?_:f+(q-1)<m.length) (Sp ((!(decide ((m.getD (f+q) (0,(0,0)))=(m.getD (f+(q-1)) (0,(0,0))))))=true) (fun h8=>I (?_:q<n-f) (I (?_:f+q<m.length) (I (?_:j<n) (I (?_:j<m.length) (I (show(q+1)≤1048576 by omega:Bnd (.nat .i64) (.n 1048576) (q+1)) (I (show(j+1)≤1048576 by omega:Bnd (.nat .i64) (.n 1048576) (j+1)) (And.intro (⟨by rw[show f+(q+1)=f+q+1 by omega];exact hJ.1.go (by omega) (by rw[show f+q-1=f+(q-1) by omega];exact mt of_decide_eq_true (nd h8)),by omega⟩:CmI z3 eqV l (m.set j (m.getD (f+q) (0,(0,0)))) (j+1) (f+(q+1))∧1≤(q+1)) (?_:n-f-(q+1)<n-f-q)))))))) (fun h9=>I (show(q+1)≤1048576 by omega:Bnd (.nat .i64) (.n 1048576) (q+1)) (And.intro (⟨by rw[show f+(q+1)=f+q+1 by omega];exact hJ.1.stay (by omega) (by rw[show f+q-1=f+(q-1) by omega];exact decide_eq_true (nd' h9)),by omega⟩:CmI z3 eqV l m j (f+(q+1))∧1≤(q+1)) (?_:n-f-(q+1)<n-f-q))))))))) (fun h10=>I (?_:j≤n) (I (?_:n≤m.length) (I (?_:0<n-j) (I (?_:j+(n-j)≤m.length) (I (?_:j≤n) (I (by rw[PJ (t:=tV3) (by omega)];omega:n≤(clrL (.pr .rat (.pr .rat .rat)) m j (n-j)).length) (And.intro ((CmI.all (t:=tV3) (e:=eqV) hJ.1 (by omega) (by omega)).1:clrL (.pr .rat (.pr .rat .rat)) m j (n-j)=unqF z3 eqV l) (((CmI.all (t:=tV3) (e:=eqV) (n:=n) hJ.1 (by omega) (by omega)).2:j=(unqD z3 eqV l).length))))))))))))) (fun h13=>I (show(f+1)≤1048576 by omega:Bnd (.nat .i64) (.n 1048576) (f+1)) (And.intro (⟨hI.1,hI.2.step (by omega) h13⟩:m0=l∧CmO z3 eqV m0 (f+1)) (?_:n-(f+1)<n-f))))))))) (fun h14=>And.intro (by have hd:=hI.2.all (by omega);rw[hI.1]at hd⊢;exact HI hd:m0=unqF z3 eqV l) ((by have hd:=hI.2.all (by omega);rw[hI.1]at hd;rw[hd];exact hp0:n=(unqD z3 eqV l).length))))))⟩<;>omega)
abbrev Mp:CtrS Tryz.prog:=FV.c Mr
def rwSF(slot:Nat)(t:Ty)(b:Bd)(y:t.den)(st:WSt):Option (List Prop×WSt):=
 match look st.m slot with
 |some (.c (.one (.dt t' b' x)))=>if h:t'.beq t=true then(bif qV st.m then some ([j0 h x=y,Bnd t b y],setV st slot (.c (.one (.dt t b y))))else none)else none
 |some (.c (.agg [.dt t' b' x]))=>if h:t'.beq t=true then(bif qV st.m then some ([j0 h x=y,Bnd t b y],setV st slot (.c (.agg [.dt t b y])))else none)else none
 |_=>none
def rwS(slot:Nat)(t:Ty)(b:Bd)(y:t.den):PExt:=⟨fun _ st=>rwSF slot t b y st,by
 intro n Ks st st' vc hk h hvc
 unfold rwSF at h
 split at h
 ·rename_i t' b' x hl
  split at h
  ·rename_i hb
   have:=Ty.beq_eq hb;subst this
   cases hn:qV st.m with
   |false=>rw[hn]at h;cases h
   |true=>
    rw[hn]at h
    simp only[cond_true,Option.some.injEq,Prod.mk.injEq]at h;obtain⟨rfl,rfl⟩:=h
    have e:j0 hb x=y:=hvc _ List.mem_cons_self
    have e2:Bnd t' b y:=hvc (Bnd t' b y) (by simp)
    rw[B8]at e;subst e
    have h0:(WV.c (.one (.dt t' b' x))).ok:=hk.m slot _ (by unfold qp;rw[hl])
    exact wN hk hn hl rfl ⟨e2,h0.2⟩
  ·cases h
 ·rename_i t' b' x hl
  split at h
  ·rename_i hb
   have:=Ty.beq_eq hb;subst this
   cases hn:qV st.m with
   |false=>rw[hn]at h;cases h
   |true=>
    rw[hn]at h
    simp only[cond_true,Option.some.injEq,Prod.mk.injEq]at h;obtain⟨rfl,rfl⟩:=h
    have e:j0 hb x=y:=hvc _ List.mem_cons_self
    have e2:Bnd t' b y:=hvc (Bnd t' b y) (by simp)
    rw[B8]at e;subst e
    exact wN hk hn hl rfl (j9 e2)
  ·cases h
 ·cases h⟩
section
def Sz(h:Nat)(x:Int):Prop:=x.natAbs≤2^h
section
variable {h k:Nat} {x y:Int}
theorem Sz.le(a:Sz h x)(e:h≤k):Sz k x:=Nat.le_trans a (Nat.pow_le_pow_right (by decide) e)
theorem Sz.mul(a:Sz h x)(b:Sz k y):Sz (h+k) (x*y):=by
 unfold Sz at*;rw[Int.natAbs_mul,Nat.pow_add];exact Nat.mul_le_mul a b
theorem Sz.neg(a:Sz h x):Sz h (-x):=by unfold Sz at*;rw[Int.natAbs_neg];exact a
theorem Sz.add(a:Sz h x)(b:Sz h y):Sz (h+1) (x+y):=by
 unfold Sz at*;have:=Int.natAbs_add_le x y;rw[Nat.pow_succ];omega
theorem Sz.sub(a:Sz h x)(b:Sz h y):Sz (h+1) (x-y):=by rw[Int.sub_eq_add_neg];exact a.add b.neg
end
def Hg(h:Nat)(p:V3):Prop:= ∃X Y Z W:Int,0<W∧Sz h W∧Sz h X∧Sz h Y∧Sz h Z∧p.1*(W:Rat)=X∧p.2.1*(W:Rat)=Y∧p.2.2*(W:Rat)=Z
def Hp(h:Nat)(q:V3×Rat):Prop:= ∃X Y Z D S:Int,0<S∧Sz h S∧Sz h X∧Sz h Y∧Sz h Z∧Sz h D∧q.1.1*(S:Rat)=X∧q.1.2.1*(S:Rat)=Y∧q.1.2.2*(S:Rat)=Z∧q.2*(S:Rat)=D
theorem Hg.le{h k:Nat}{p:V3}(a:Hg h p)(e:h≤k):Hg k p:=by
 obtain⟨X,Y,Z,W,h0,h1,h2,h3,h4,h5⟩:=a
 exact⟨X,Y,Z,W,h0,h1.le e,h2.le e,h3.le e,h4.le e,h5⟩
theorem Hp.le{h k:Nat}{p:V3×Rat}(a:Hp h p)(e:h≤k):Hp k p:=by
 obtain⟨X,Y,Z,W,S,h0,h1,h2,h3,h4,h5,h6⟩:=a
 exact⟨X,Y,Z,W,S,h0,h1.le e,h2.le e,h3.le e,h4.le e,h5.le e,h6⟩
theorem ipos{W:Int}(h:0<W):(0:Rat)<(W:Rat):=by have:=Rat.intCast_lt_intCast.2 h;simpa using this
theorem GD(x:Rat):x*((x.den:Int):Rat)=((x.num:Int):Rat):=by
 have h:(x.num:Rat)/((x.den:Int):Rat)=x:=by rw[←Rat.divInt_eq_div];exact Rat.num_divInt_den x
 have d0:((x.den:Int):Rat)≠0:=fun e=>by have:=ipos (Int.natCast_pos.2 x.den_pos);rw[e]at this;exact absurd this (by decide)
 have:=div_eq (x:=(x.num:Rat)) d0
 rw[h]at this;grind
theorem Hg.of{m:Nat}{p:V3}(hp:Bnd tV3 (bV3 m) p):Hg (3*m) p:=by
 obtain⟨a,b,c⟩:=p
 obtain⟨ha,hb,hc⟩:=hp
 have sz: ∀x:Rat,Bnd .rat (.n m) x→Sz m x.num∧Sz m (x.den:Int):=fun x hx=>⟨Nat.le_of_lt hx.1,by show Int.natAbs (x.den:Int)≤2^m;rw[Int.natAbs_natCast];exact hx.2⟩
 obtain⟨a1,a2⟩:=sz a ha;obtain⟨b1,b2⟩:=sz b hb;obtain⟨c1,c2⟩:=sz c hc
 have ea:=GD a;have eb:=GD b;have ec:=GD c
 have pa:(0:Int)<a.den:=Int.natCast_pos.2 a.den_pos
 have pb:(0:Int)<b.den:=Int.natCast_pos.2 b.den_pos
 have pc:(0:Int)<c.den:=Int.natCast_pos.2 c.den_pos
 refine⟨a.num*b.den*c.den,b.num*a.den*c.den,c.num*a.den*b.den,a.den*b.den*c.den,Int.mul_pos (Int.mul_pos pa pb) pc,((a2.mul b2).mul c2).le (by omega),((a1.mul b2).mul c2).le (by omega),((b1.mul a2).mul c2).le (by omega),((c1.mul a2).mul b2).le (by omega),?_,?_,?_⟩<;>simp only[Rat.intCast_mul]<;>grind
theorem Hg.bnd{h m:Nat}{p:V3}(hp:Hg h p)(e:h+1≤m):Bnd tV3 (bV3 m) p:=by
 obtain⟨X,Y,Z,W,h0,h1,h2,h3,h4,e1,e2,e3⟩:=hp
 have hW:=ipos h0
 have key: ∀(x:Rat)(N:Int),Sz h N→x*(W:Rat)=N→Bnd .rat (.n m) x:=fun x N hN hx=>by
  have:x=(N:Rat)/(W:Rat):=by
   have:=div_eq (x:=(N:Rat)) (y:=(W:Rat)) (by grind)
   generalize(N:Rat)/(W:Rat)=t at*
   have h9:(x-t)*(W:Rat)=0:=by grind
   rcases Rat.mul_eq_zero.1 h9 with h9|h9<;>grind
  rw[this]
  refine ja (Cg hN h1) ?_
  rw[Nat.log2_two_pow];simp;omega
 exact⟨key _ _ h2 e1,key _ _ h3 e2,key _ _ h4 e3⟩
theorem Hg.mk{h:Nat}{p:V3}{X Y Z W:Int}(h0:W≠0)(h1:Sz h W)(h2:Sz h X)(h3:Sz h Y)(h4:Sz h Z)(e1:p.1*(W:Rat)=X)(e2:p.2.1*(W:Rat)=Y)(e3:p.2.2*(W:Rat)=Z):Hg h p:=by
 rcases Int.lt_or_lt_of_ne h0 with c|c
 ·refine⟨-X,-Y,-Z,-W,by omega,h1.neg,h2.neg,h3.neg,h4.neg,?_,?_,?_⟩<;>rw[Rat.intCast_neg,Rat.intCast_neg]<;>grind
 ·exact⟨X,Y,Z,W,c,h1,h2,h3,h4,e1,e2,e3⟩
theorem T7{q:V3×Rat}{p:V3}{A B C D S X Y Z W:Int}(a:q.1.1*(S:Rat)=A)(b:q.1.2.1*(S:Rat)=B)(c:q.1.2.2*(S:Rat)=C)(d:q.2*(S:Rat)=D)(x:p.1*(W:Rat)=X)(y:p.2.1*(W:Rat)=Y)(z:p.2.2*(W:Rat)=Z):
  valP q p*((S:Rat)*(W:Rat))=((A*X+B*Y+C*Z-D*W:Int):Rat):=by
 simp only[Rat.intCast_sub,Rat.intCast_add,Rat.intCast_mul,valP,dotQ,←a,←b,←c,←d,←x,←y,←z];grind
theorem q1f{q:V3×Rat}{a b:V3}{k h:Nat}(hq:Hp k q)(ha:Hg h a)(hb:Hg h b)(hs:valP q a-valP q b≠0):Hg (k+2*h+4) (crsV q a b):=by
 obtain⟨A,B,C,D,S,s0,s1,a1,b1,c1,d1,ea,eb,ec,ed⟩:=hq
 obtain⟨X,Y,Z,W,w0,w1,x1,y1,z1,ex,ey,ez⟩:=ha
 obtain⟨X',Y',Z',W',w0',w1',x1',y1',z1',ex',ey',ez'⟩:=hb
 have va:=T7 ea eb ec ed ex ey ez
 have vb:=T7 ea eb ec ed ex' ey' ez'
 have sa:Sz (k+h+2) (A*X+B*Y+C*Z-D*W):=by
  have t1:=(a1.mul x1).add (b1.mul y1)
  have t2:=(c1.mul z1).sub (d1.mul w1)
  have:=t1.add t2
  rw[show A*X+B*Y+C*Z-D*W=A*X+B*Y+(C*Z-D*W) by omega];exact this
 have sb:Sz (k+h+2) (A*X'+B*Y'+C*Z'-D*W'):=by
  have t1:=(a1.mul x1').add (b1.mul y1')
  have t2:=(c1.mul z1').sub (d1.mul w1')
  have:=t1.add t2
  rw[show A*X'+B*Y'+C*Z'-D*W'=A*X'+B*Y'+(C*Z'-D*W') by omega];exact this
 generalize A*X+B*Y+C*Z-D*W=ua at*
 generalize A*X'+B*Y'+C*Z'-D*W'=ub at*
 have hS:=ipos s0;have hW:=ipos w0;have hW':=ipos w0'
 have et:=div_eq (x:=valP q a) hs
 unfold crsV
 generalize valP q a/(valP q a-valP q b)=t at*
 generalize valP q a=vA at*;generalize valP q b=vB at*
 have sz: ∀u v:Int,Sz h u→Sz h v→Sz (k+2*h+4) (ua*u-ub*v):=fun u v hu hv=>((sa.mul hu).sub (sb.mul hv)).le (by omega)
 have hne:ua*W'-ub*W≠0:=fun e=>by
  have e2:((ua*W'-ub*W:Int):Rat)=0:=by rw[e];rfl
  simp only[Rat.intCast_sub,Rat.intCast_mul,←va,←vb]at e2
  have e3:(S:Rat)*((W:Rat)*((W':Rat)*(vA-vB)))=0:=by grind
  rcases Rat.mul_eq_zero.1 e3 with e3|e3
  ·grind
  ·rcases Rat.mul_eq_zero.1 e3 with e3|e3
   ·grind
   ·rcases Rat.mul_eq_zero.1 e3 with e3|e3<;>grind
 refine Hg.mk (X:=ua*X'-ub*X) (Y:=ua*Y'-ub*Y) (Z:=ua*Z'-ub*Z) (W:=ua*W'-ub*W) hne (sz _ _ w1' w1) (sz _ _ x1' x1) (sz _ _ y1' y1) (sz _ _ z1' z1) ?_ ?_ ?_<;>
  simp only[Rat.intCast_sub,Rat.intCast_mul,←va,←vb,←ex,←ey,←ez,←ex',←ey',←ez',onS,addV,qI,subV]<;>grind
theorem q1Y{q:V3×Rat}{k:Nat}(h:Hp k q):Hp k (oppP q):=by
 obtain⟨A,B,C,D,S,s0,s1,a1,b1,c1,d1,ea,eb,ec,ed⟩:=h
 have e:((-1:Int):Rat)= -1:=rfl
 refine⟨-A,-B,-C,-D,S,s0,s1,a1.neg,b1.neg,c1.neg,d1.neg,?_,?_,?_,?_⟩<;>simp only[Rat.intCast_neg,oppP,qI,e]<;>grind
theorem Sy{N p:V3}{A B C S:Int}{k h:Nat}(s0:0<S)(s1:Sz k S)(a1:Sz k A)(b1:Sz k B)(c1:Sz k C)(ea:N.1*(S:Rat)=A)(eb:N.2.1*(S:Rat)=B)(ec:N.2.2*(S:Rat)=C)(hp:Hg h p):Hp (k+h+2) (N,dotQ N p):=by
 obtain⟨X,Y,Z,W,w0,w1,x1,y1,z1,ex,ey,ez⟩:=hp
 refine⟨A*W,B*W,C*W,A*X+B*Y+C*Z,S*W,Int.mul_pos s0 w0,(s1.mul w1).le (by omega),(a1.mul w1).le (by omega),(b1.mul w1).le (by omega),(c1.mul w1).le (by omega),?_,?_,?_,?_,?_⟩
 ·exact((a1.mul x1).add (b1.mul y1)).add ((c1.mul z1).le (Nat.le_succ _))
 ·simp only[Rat.intCast_mul,←ea];grind
 ·simp only[Rat.intCast_mul,←eb];grind
 ·simp only[Rat.intCast_mul,←ec];grind
 ·simp only[Rat.intCast_mul,Rat.intCast_add,←ea,←eb,←ec,←ex,←ey,←ez,dotQ];grind
theorem MC{a b:V3}{h:Nat}(ha:Hg h a)(hb:Hg h b):Hg (2*h+1) (subV a b):=by
 obtain⟨X,Y,Z,W,w0,w1,x1,y1,z1,ex,ey,ez⟩:=ha
 obtain⟨X',Y',Z',W',w0',w1',x1',y1',z1',ex',ey',ez'⟩:=hb
 refine⟨X*W'-X'*W,Y*W'-Y'*W,Z*W'-Z'*W,W*W',Int.mul_pos w0 w0',(w1.mul w1').le (by omega),((x1.mul w1').sub (x1'.mul w1)).le (by omega),((y1.mul w1').sub (y1'.mul w1)).le (by omega),((z1.mul w1').sub (z1'.mul w1)).le (by omega),?_,?_,?_⟩<;>
  simp only[Rat.intCast_sub,Rat.intCast_mul,←ex,←ey,←ez,←ex',←ey',←ez',subV]<;>grind
theorem IC{a b:V3}{h k:Nat}(ha:Hg h a)(hb:Hg k b):Hg (h+k+1) (qc a b):=by
 obtain⟨X,Y,Z,W,w0,w1,x1,y1,z1,ex,ey,ez⟩:=ha
 obtain⟨X',Y',Z',W',w0',w1',x1',y1',z1',ex',ey',ez'⟩:=hb
 refine⟨Y*Z'-Z*Y',Z*X'-X*Z',X*Y'-Y*X',W*W',Int.mul_pos w0 w0',(w1.mul w1').le (by omega),(y1.mul z1').sub (z1.mul y1'),(z1.mul x1').sub (x1.mul z1'),(x1.mul y1').sub (y1.mul x1'),?_,?_,?_⟩<;>
  simp only[Rat.intCast_sub,Rat.intCast_mul,←ex,←ey,←ez,←ex',←ey',←ez',qc]<;>grind
theorem Vw{t:T3}{h:Nat}(h1:Hg h t.1)(h2:Hg h t.2.1)(h3:Hg h t.2.2):Hg (4*h+3) (qz t)∧Hp (5*h+5) (qd t):=by
 have hN:Hg (4*h+3) (qz t):=(IC (MC h2 h1) (MC h3 h1)).le (by omega)
 refine⟨hN,?_⟩
 obtain⟨X,Y,Z,W,w0,w1,x1,y1,z1,ex,ey,ez⟩:=hN
 exact(Sy w0 w1 x1 y1 z1 ex ey ez h1).le (by omega)
theorem Ds{q:V3×Rat}{a b:V3}{k h:Nat}(hN:Hg k q.1)(ha:Hg h a)(hb:Hg h b):Hp (k+3*h+4) (upP q a b):=by
 obtain⟨X,Y,Z,W,w0,w1,x1,y1,z1,ex,ey,ez⟩:=IC (MC hb ha) hN
 exact(Sy w0 w1 x1 y1 z1 ex ey ez ha).le (by omega)
theorem z3_h(h:Nat):Hg h z3:=by
 have p: ∀x:Int,x.natAbs≤1→Sz h x:=fun x hx=>Nat.le_trans hx Nat.one_le_two_pow
 have z:(0:Rat)*((1:Int):Rat)=((0:Int):Rat):=(Rat.zero_mul _).trans rfl
 exact⟨0,0,0,1,by decide,p 1 (by decide),p 0 (by decide),p 0 (by decide),p 0 (by decide),z,z,z⟩
theorem IQ{l:List V3}{m:Nat}(h: ∀x∈l,Hg m x)(i:Nat):Hg m (l.getD i z3):=by
 by_cases hi:i<l.length
 ·rw[qE hi];exact h _ (List.getElem_mem hi)
 ·rw[List.getD_eq_getElem?_getD,List.getElem?_eq_none (by omega)];exact z3_h m
theorem Kx{q:V3×Rat}{l:List V3}{k h:Nat}(hq:Hp k q)(hl: ∀x∈l,Hg h x): ∀i,∀x∈qR q l i,Hg (k+2*h+4) x
 |0,x,hx=>by cases hx
 |i+1,x,hx=>by
  rcases List.mem_append.1 hx with hx|hx
  ·exact Kx hq hl i x hx
  ·unfold zV at hx
   rcases List.mem_append.1 hx with hx|hx
   ·split at hx
    ·rw[List.mem_singleton.1 hx];exact(IQ hl i).le (by omega)
    ·cases hx
   ·split at hx
    ·rename_i hc
     rw[List.mem_singleton.1 hx]
     refine q1f hq (IQ hl i) (IQ hl _) fun e=>?_
     have e2:dotQ q.1 (l.getD i z3)=dotQ q.1 (l.getD ((i+1)%l.length) z3):=by unfold valP at e;grind
     rw[e2]at hc
     generalize cmpQ (dotQ q.1 (l.getD ((i+1)%l.length) z3)) q.2=c at hc
     have:0≤c*c:=by
      rcases Int.le_total 0 c with h|h
      ·exact Int.mul_nonneg h h
      ·exact Int.mul_nonneg_of_nonpos_of_nonpos h h
     omega
    ·cases hx
theorem Bl{q:V3×Rat}{l:List V3}{k h:Nat}(hq:Hp k q)(hl: ∀x∈l,Hg h x): ∀x∈qC q l,Hg (k+2*h+4) x:=Kx hq hl _
theorem Tl{a b:T3}{h:Nat}(ha:Hg h a.1∧Hg h a.2.1∧Hg h a.2.2)(hb:Hg h b.1∧Hg h b.2.1∧Hg h b.2.2): ∀x∈qb a b,Hg (208*h+300) x:=by
 have hp:=Vw hb.1 hb.2.1 hb.2.2
 have l0: ∀x∈[a.1,a.2.1,a.2.2],Hg h x:=fun x hx=>by
  simp only[List.mem_cons,List.not_mem_nil,or_false]at hx
  rcases hx with rfl|rfl|rfl
  ·exact ha.1
  ·exact ha.2.1
  ·exact ha.2.2
 have c1:=Bl hp.2 l0
 have c2:=Bl (q1Y hp.2) c1
 have c3:=Bl (Ds (q:=qd b) hp.1 hb.1 hb.2.1) c2
 have c4:=Bl (Ds (q:=qd b) hp.1 hb.2.1 hb.2.2) c3
 have c5:=Bl (Ds (q:=qd b) hp.1 hb.2.2 hb.1) c4
 exact fun x hx=>(c5 x hx).le (by omega)
theorem Ew{a b:T3}{k:Nat}(hk:41000≤k)(ha:Bnd tT3 (bT3 64) a)(hb:Bnd tT3 (bT3 64) b):(WV.c (.one (.dt (.sl tV3) (.s 96 (bV3 k)) (qv a b)))).ok:=by
 refine qa ?_ rfl
 have h:Bnd (.sl tV3) (.s 96 (bV3 k)) (qv a b):=by
  unfold qv
  split
  ·exact⟨Nat.zero_le _,fun x hx=>by cases hx⟩
  ·have g:=Kw (m:=64) (a:=a) (b:=b) ⟨ha.1,ha.2.1,ha.2.2⟩ ⟨hb.1,hb.2.1,hb.2.2⟩
   have g2:=Tl (h:=3*64) (a:=a) (b:=b) ⟨Hg.of ha.1,Hg.of ha.2.1,Hg.of ha.2.2⟩ ⟨Hg.of hb.1,Hg.of hb.2.1,Hg.of hb.2.2⟩
   exact⟨Nat.le_trans (CR _) g.1,fun x hx=>(g2 x (CS hx)).bnd (by omega)⟩
 exact h
end
end Go.Proofs.YtchgnllhbcadpaaGreat.Sx
