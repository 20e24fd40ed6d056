/-
Own laws, part 5. No condition.
-/
import Derived.Test.YteeamcbonfkjcaaGreatG4
namespace Go.Proofs.YteeamcbonfkjcaaGreat.Sx
open Go Go.Proofs
set_option linter.unusedVariables false
set_option linter.unusedSimpArgs false
set_option maxRecDepth 20000
set_option maxHeartbeats 4000000
abbrev q3r:FI:=⟨41,[.mag,.mag],[(.n 1099511627776),(.n 1099511627776)],λ_=>[],λb z=>(λ(x:Nat)(y:Nat)=> .c (.one (.dt .mag (.n (max (b0 b).nb (b1 b).nb+1)) (x+y)))) z.1 z.2⟩
theorem q3s:q3r.OK Tryz.prog:=qB hmix 54 Tryz.func41 rfl rfl (by decide) [] (λ(x:Nat)(y:Nat) b hx hp=>qa (F9 (Bnds.h2 hx).1.mag (Bnds.h2 hx).2.mag) rfl) (λ(x:Nat)(y:Nat) hx hp=>by
 have hx0:qJ x 1099511627776:=hx.1;have hl0:(limbs x).length<=34359738369:=qv (q7h hx0);have hx1:qJ y 1099511627776:=hx.2;have hl1:(limbs y).length<=34359738369:=qv (q7h hx1)
 refine⟨.loop [.s 7 (.nat .i64) (.n 34359738371),.s 6 (.nat .u64) (.n 1),.g 5 90005 (.nat .u32) (.n 4294967295) 34359738371] (λ((i,c,out):Nat×Nat×List Nat)=>AddX x y i c out) (λ((i,c,out):Nat×Nat×List Nat)=>max (limbs x).length (limbs y).length+1-i) (λ((i,c,out):Nat×Nat×List Nat)=> .cond (.cond (.cond (.h 10 3 (.mk (.im (.nat .u32) (.n 4294967295))) (.nil)) (.h 10 3 (.mk (.im (.nat .u32) (.n 4294967295))) (.nil))) (.cond (.h 10 3 (.mk (.im (.nat .u32) (.n 4294967295))) (.nil)) (.h 10 3 (.mk (.im (.nat .u32) (.n 4294967295))) (.nil)))) (.cond (.cond (.cond (.h 10 3 (.mk (.im (.nat .u32) (.n 4294967295))) (.nil)) (.h 10 3 (.mk (.im (.nat .u32) (.n 4294967295))) (.nil))) (.cond (.h 10 3 (.mk (.im (.nat .u32) (.n 4294967295))) (.nil)) (.h 10 3 (.mk (.im (.nat .u32) (.n 4294967295))) (.nil)))) (.cond (.cond (.cond (.h 10 3 (.mk (.im (.nat .u32) (.n 4294967295))) (.nil)) (.h 10 3 (.mk (.im (.nat .u32) (.n 4294967295))) (.nil))) (.cond (.h 10 3 (.mk (.im (.nat .u32) (.n 4294967295))) (.nil)) (.h 10 3 (.mk (.im (.nat .u32) (.n 4294967295))) (.nil)))) (.pre 12 (.frz 90005 true [5]) (.h 12 1 (.mag (x+y) 1099511627777) (.nil)))))),kcast (by kernel_rfl) (I (rfl:0=([]:List Nat).length) (I (AddX.start x y:AddX x y 0 0 ([]:List Nat)) (λ(i:Nat)(c:Nat)(out:List Nat)(hb1:HB [.s 7 (.nat .i64) (.n 34359738371),.s 6 (.nat .u64) (.n 1),.g 5 90005 (.nat .u32) (.n 4294967295) 34359738371] (i,c,out))(hI:AddX x y i c out)=>have hv26:=(show i<=34359738371 from hb1.1);have hv27:=(show c<=1 from hb1.2.1);have hv28:=(show out.length<=34359738371 from hb1.2.2.1);have hIl:=hI.hl;have hIi:=hI.hi;have hIc:=hI.hc;have hg1:=qj x i;have hg2:=qj y i;Sp (i<(limbs x).length) (λh2=>Sp (i<(limbs x).length) (λh3=>I (?_:i<(limbs x).length) (Sp (i<(limbs y).length) (λh4=>I (?_:i<(limbs y).length) (I (?_:out.length=out.length) (I (show(i+1)<=34359738371 by omega:Bnd (.nat .i64) (.n 34359738371) (i+1)) (I (by(try simp only[q6M,q6N,q6Q])<;>omega:out.length+[((c+((limbs x).getD i 0))+((limbs y).getD i 0))%4294967296].length=(out++[((c+((limbs x).getD i 0))+((limbs y).getD i 0))%4294967296]).length) (I (by(try simp only[q6M,q6N,q6Q])<;>omega:out.length+[((c+((limbs x).getD i 0))+((limbs y).getD i 0))%4294967296].length<=34359738371) (q6q (hI.step2 (by omega) (by first|rfl|(have hq1:= @qS (limbs x) i;have hq2:= @qS (limbs y) i;omega)) (by omega):AddX x y (i+1) (((c+((limbs x).getD i 0))+((limbs y).getD i 0))/2^32) (out++[((c+((limbs x).getD i 0))+((limbs y).getD i 0))%4294967296])) (by have:=hI.le (by omega);omega:max (limbs x).length (limbs y).length+1-(i+1)<max (limbs x).length (limbs y).length+1-i))))))) (λh5=>I (?_:out.length=out.length) (I (show(i+1)<=34359738371 by omega:Bnd (.nat .i64) (.n 34359738371) (i+1)) (I (by(try simp only[q6M,q6N,q6Q])<;>omega:out.length+[(c+((limbs x).getD i 0))%4294967296].length=(out++[(c+((limbs x).getD i 0))%4294967296]).length) (I (by(try simp only[q6M,q6N,q6Q])<;>omega:out.length+[(c+((limbs x).getD i 0))%4294967296].length<=34359738371) (q6q (hI.step2 (by omega) (by first|rfl|(have hq1:= @qS (limbs x) i;have hq2:= @qS (limbs y) i;omega)) (by omega):AddX x y (i+1) ((c+((limbs x).getD i 0))/2^32) (out++[(c+((limbs x).getD i 0))%4294967296])) (by have:=hI.le (by omega);omega:max (limbs x).length (limbs y).length+1-(i+1)<max (limbs x).length (limbs y).length+1-i)))))))) (λh6=>Sp (i<(limbs y).length) (λh7=>I (?_:i<(limbs y).length) (I (?_:out.length=out.length) (I (show(i+1)<=34359738371 by omega:Bnd (.nat .i64) (.n 34359738371) (i+1)) (I (by(try simp only[q6M,q6N,q6Q])<;>omega:out.length+[(c+((limbs y).getD i 0))%4294967296].length=(out++[(c+((limbs y).getD i 0))%4294967296]).length) (I (by(try simp only[q6M,q6N,q6Q])<;>omega:out.length+[(c+((limbs y).getD i 0))%4294967296].length<=34359738371) (q6q (hI.step2 (by omega) (by first|rfl|(have hq1:= @qS (limbs x) i;have hq2:= @qS (limbs y) i;omega)) (by omega):AddX x y (i+1) ((c+((limbs y).getD i 0))/2^32) (out++[(c+((limbs y).getD i 0))%4294967296])) (by have:=hI.le (by omega);omega:max (limbs x).length (limbs y).length+1-(i+1)<max (limbs x).length (limbs y).length+1-i))))))) (λh8=>I (?_:out.length=out.length) (I (show(i+1)<=34359738371 by omega:Bnd (.nat .i64) (.n 34359738371) (i+1)) (I (by(try simp only[q6M,q6N,q6Q])<;>omega:out.length+[c].length=(out++[c]).length) (I (by(try simp only[q6M,q6N,q6Q])<;>omega:out.length+[c].length<=34359738371) (q6q (hI.step2 (by omega) (by first|rfl|(have hq1:= @qS (limbs x) i;have hq2:= @qS (limbs y) i;omega)) (by omega):AddX x y (i+1) (c/2^32) (out++[c])) (by have:=hI.le (by omega);omega:max (limbs x).length (limbs y).length+1-(i+1)<max (limbs x).length (limbs y).length+1-i)))))))) (λh9=>Sp (i<(limbs y).length) (λh10=>Sp (i<(limbs x).length) (λh11=>I (?_:i<(limbs x).length) (Sp (i<(limbs y).length) (λh12=>I (?_:i<(limbs y).length) (I (?_:out.length=out.length) (I (show(i+1)<=34359738371 by omega:Bnd (.nat .i64) (.n 34359738371) (i+1)) (I (by(try simp only[q6M,q6N,q6Q])<;>omega:out.length+[((c+((limbs x).getD i 0))+((limbs y).getD i 0))%4294967296].length=(out++[((c+((limbs x).getD i 0))+((limbs y).getD i 0))%4294967296]).length) (I (by(try simp only[q6M,q6N,q6Q])<;>omega:out.length+[((c+((limbs x).getD i 0))+((limbs y).getD i 0))%4294967296].length<=34359738371) (q6q (hI.step2 (by omega) (by first|rfl|(have hq1:= @qS (limbs x) i;have hq2:= @qS (limbs y) i;omega)) (by omega):AddX x y (i+1) (((c+((limbs x).getD i 0))+((limbs y).getD i 0))/2^32) (out++[((c+((limbs x).getD i 0))+((limbs y).getD i 0))%4294967296])) (by have:=hI.le (by omega);omega:max (limbs x).length (limbs y).length+1-(i+1)<max (limbs x).length (limbs y).length+1-i))))))) (λh13=>I (?_:out.length=out.length) (I (show(i+1)<=34359738371 by omega:Bnd (.nat .i64) (.n 34359738371) (i+1)) (I (by(try simp only[q6M,q6N,q6Q])<;>omega:out.length+[(c+((limbs x).getD i 0))%4294967296].length=(out++[(c+((limbs x).getD i 0))%4294967296]).length) (I (by(try simp only[q6M,q6N,q6Q])<;>omega:out.length+[(c+((limbs x).getD i 0))%4294967296].length<=34359738371) (q6q (hI.step2 (by omega) (by first|rfl|(have hq1:= @qS (limbs x) i;have hq2:= @qS (limbs y) i;omega)) (by omega):AddX x y (i+1) ((c+((limbs x).getD i 0))/2^32) (out++[(c+((limbs x).getD i 0))%4294967296])) (by have:=hI.le (by omega);omega:max (limbs x).length (limbs y).length+1-(i+1)<max (limbs x).length (limbs y).length+1-i)))))))) (λh14=>Sp (i<(limbs y).length) (λh15=>I (?_:i<(limbs y).length) (I (?_:out.length=out.length) (I (show(i+1)<=34359738371 by omega:Bnd (.nat .i64) (.n 34359738371) (i+1)) (I (by(try simp only[q6M,q6N,q6Q])<;>omega:out.length+[(c+((limbs y).getD i 0))%4294967296].length=(out++[(c+((limbs y).getD i 0))%4294967296]).length) (I (by(try simp only[q6M,q6N,q6Q])<;>omega:out.length+[(c+((limbs y).getD i 0))%4294967296].length<=34359738371) (q6q (hI.step2 (by omega) (by first|rfl|(have hq1:= @qS (limbs x) i;have hq2:= @qS (limbs y) i;omega)) (by omega):AddX x y (i+1) ((c+((limbs y).getD i 0))/2^32) (out++[(c+((limbs y).getD i 0))%4294967296])) (by have:=hI.le (by omega);omega:max (limbs x).length (limbs y).length+1-(i+1)<max (limbs x).length (limbs y).length+1-i))))))) (λh16=>I (?_:out.length=out.length) (I (show(i+1)<=34359738371 by omega:Bnd (.nat .i64) (.n 34359738371) (i+1)) (I (by(try simp only[q6M,q6N,q6Q])<;>omega:out.length+[c].length=(out++[c]).length) (I (by(try simp only[q6M,q6N,q6Q])<;>omega:out.length+[c].length<=34359738371) (q6q (hI.step2 (by omega) (by first|rfl|(have hq1:= @qS (limbs x) i;have hq2:= @qS (limbs y) i;omega)) (by omega):AddX x y (i+1) (c/2^32) (out++[c])) (by have:=hI.le (by omega);omega:max (limbs x).length (limbs y).length+1-(i+1)<max (limbs x).length (limbs y).length+1-i)))))))) (λh17=>Sp (c≠0) (λh18=>Sp (i<(limbs x).length) (λh19=>I (?_:i<(limbs x).length) (Sp (i<(limbs y).length) (λh20=>I (?_:i<(limbs y).length) (I (?_:out.length=out.length) (I (show(i+1)<=34359738371 by omega:Bnd (.nat .i64) (.n 34359738371) (i+1)) (I (by(try simp only[q6M,q6N,q6Q])<;>omega:out.length+[((c+((limbs x).getD i 0))+((limbs y).getD i 0))%4294967296].length=(out++[((c+((limbs x).getD i 0))+((limbs y).getD i 0))%4294967296]).length) (I (by(try simp only[q6M,q6N,q6Q])<;>omega:out.length+[((c+((limbs x).getD i 0))+((limbs y).getD i 0))%4294967296].length<=34359738371) (q6q (hI.step2 (by omega) (by first|rfl|(have hq1:= @qS (limbs x) i;have hq2:= @qS (limbs y) i;omega)) (by omega):AddX x y (i+1) (((c+((limbs x).getD i 0))+((limbs y).getD i 0))/2^32) (out++[((c+((limbs x).getD i 0))+((limbs y).getD i 0))%4294967296])) (by have:=hI.le (by omega);omega:max (limbs x).length (limbs y).length+1-(i+1)<max (limbs x).length (limbs y).length+1-i))))))) (λh21=>I (?_:out.length=out.length) (I (show(i+1)<=34359738371 by omega:Bnd (.nat .i64) (.n 34359738371) (i+1)) (I (by(try simp only[q6M,q6N,q6Q])<;>omega:out.length+[(c+((limbs x).getD i 0))%4294967296].length=(out++[(c+((limbs x).getD i 0))%4294967296]).length) (I (by(try simp only[q6M,q6N,q6Q])<;>omega:out.length+[(c+((limbs x).getD i 0))%4294967296].length<=34359738371) (q6q (hI.step2 (by omega) (by first|rfl|(have hq1:= @qS (limbs x) i;have hq2:= @qS (limbs y) i;omega)) (by omega):AddX x y (i+1) ((c+((limbs x).getD i 0))/2^32) (out++[(c+((limbs x).getD i 0))%4294967296])) (by have:=hI.le (by omega);omega:max (limbs x).length (limbs y).length+1-(i+1)<max (limbs x).length (limbs y).length+1-i)))))))) (λh22=>Sp (i<(limbs y).length) (λh23=>I (?_:i<(limbs y).length) (I (?_:out.length=out.length) (I (show(i+1)<=34359738371 by omega:Bnd (.nat .i64) (.n 34359738371) (i+1)) (I (by(try simp only[q6M,q6N,q6Q])<;>omega:out.length+[(c+((limbs y).getD i 0))%4294967296].length=(out++[(c+((limbs y).getD i 0))%4294967296]).length) (I (by(try simp only[q6M,q6N,q6Q])<;>omega:out.length+[(c+((limbs y).getD i 0))%4294967296].length<=34359738371) (q6q (hI.step2 (by omega) (by first|rfl|(have hq1:= @qS (limbs x) i;have hq2:= @qS (limbs y) i;omega)) (by omega):AddX x y (i+1) ((c+((limbs y).getD i 0))/2^32) (out++[(c+((limbs y).getD i 0))%4294967296])) (by have:=hI.le (by omega);omega:max (limbs x).length (limbs y).length+1-(i+1)<max (limbs x).length (limbs y).length+1-i))))))) (λh24=>I (?_:out.length=out.length) (I (show(i+1)<=34359738371 by omega:Bnd (.nat .i64) (.n 34359738371) (i+1)) (I (by(try simp only[q6M,q6N,q6Q])<;>omega:out.length+[c].length=(out++[c]).length) (I (by(try simp only[q6M,q6N,q6Q])<;>omega:out.length+[c].length<=34359738371) (q6q (hI.step2 (by omega) (by first|rfl|(have hq1:= @qS (limbs x) i;have hq2:= @qS (limbs y) i;omega)) (by omega):AddX x y (i+1) (c/2^32) (out++[c])) (by have:=hI.le (by omega);omega:max (limbs x).length (limbs y).length+1-(i+1)<max (limbs x).length (limbs y).length+1-i)))))))) (λh25=>I (?_:out.length=out.length) (I (hI.fin (by omega) (by omega) (by omega):out=limbs (x+y)) (I (qk (by decide) (F9 hx0 hx1):qJ (x+y) 1099511627777) ((Eq.refl (x+y)))))))))))⟩<;>omega)
abbrev q3q:Ctr Tryz.prog:=FI.c q3s
abbrev NJ:FO:=⟨137,[.mag,(.nat .i64)],[(.n 1099511627776),(.n 17179869184)],λ_=>[],λk b z=>(λ(x:Nat)(j:Nat)=> .c (.one (.gs k ((limbs (x*4294967296^j)).length) 1 (((b0 b).nb+32*(b1 b).nb)/32+1)))) z.1 z.2,λb z=>(λ(x:Nat)(j:Nat)=> .gro (.nat .u32) (.n 4294967295) (limbs (x*4294967296^j))) z.1 z.2⟩
theorem NK:NJ.OK Tryz.prog:=mkO hmix 12 11 Tryz.func137 rfl rfl (by decide) [] (λ_=>rfl) (λ_ _ _=>rfl) (λ_ _=>rfl) (λ_ _ _=>⟨rfl,rfl⟩) (λ(x:Nat)(j:Nat) k b hx hp=>⟨qa (qv (q7h (IR (Bnds.h2 hx).1.mag (Bnds.h2 hx).2.nat))) rfl,λu hu=>q7i (jo _ u hu)⟩) (λ(x:Nat)(j:Nat) hx hp=>by
 have hx0:qJ x 1099511627776:=hx.1;have hl0:(limbs x).length<=34359738369:=qv (q7h hx0);have hx1:j<=17179869184:=hx.2
 refine bodyO.g (.cond (.nil) (.h 3 1 (.mk (.gro (.nat .u32) (.n 4294967295))) (.nil))) (kcast (by kernel_rfl) (Sp ((limbs x).length=0) (λh1=>q6q (by rw[nl0.1 (show(limbs x).length=0 by assumption),q7H];rfl:([]:List Nat)=limbs (x*4294967296^j)) ((by rw[nl0.1 (show(limbs x).length=0 by assumption),q7H];rfl:0=(limbs (x*4294967296^j)).length))) (λh2=>I (?_:j=j) (I ((List.length_replicate ..).symm:j=(List.replicate j (0:Nat)).length) (q6q (FJ (mt nl0.2 (by assumption)):(List.replicate j (0:Nat))++(limbs x)=limbs (x*4294967296^j)) ((by rw[<-FJ (mt nl0.2 (by assumption))];simp:j+(limbs x).length=(limbs (x*4294967296^j)).length)))))))<;>omega)
abbrev NI(k:Nat)(b:List Bd)(x:Nat)(j:Nat):WV:= .c (.one (.gs k ((limbs (x*4294967296^j)).length) 1 (((b0 b).nb+32*(b1 b).nb)/32+1)))
abbrev NH(b:List Bd)(x:Nat)(j:Nat):WB:= .gro (.nat .u32) (.n 4294967295) (limbs (x*4294967296^j))
theorem Lj(d:Nat)(x:Nat)(j:Nat)(hx:Bnds [.mag,(.nat .i64)] [(.n 1099511627776),(.n 17179869184)] (x,j))(hp: ∀c0∈([]:List Prop),c0):vU Tryz.prog 137 (argsE [.mag,(.nat .i64)] (x,j)) [] (NI d [(.n 1099511627776),(.n 17179869184)] x j).exp [(d,some (NH [(.n 1099511627776),(.n 17179869184)] x j).exp)]:=NK.sig d (x,j) hx hp
abbrev Mw(b:Bd)(x k:Nat):WV:= .c (.one (.dt .mag b (x*4294967296^k)))
theorem Lz(x k:Nat)(hx:Bnds [.mag,.nat .i64] [.n 1099511627776,.n 17179869184] (x,k))(b:Bd):Sig Tryz.prog 137 (argsE [.mag,.nat .i64] (x,k)) (Mw b x k).exp:=by
 have h:=frzO (Lj 0 x k hx (by intro p hp;cases hp)) (by decide) rfl .u;rw[magE (x*4294967296^k) .u b]at h;exact h
theorem Qq(x:Nat)(z:Int)(h:0<=z):argsE [.mag,.int .i64] (x,z)=argsE [.mag,.nat .i64] (x,z.toNat):=by
 obtain⟨n,rfl⟩:=Int.eq_ofNat_of_zero_le h;rfl
def wi:Ctr Tryz.prog:=⟨137,[.mag,.int .i64],[.n 1099511627776,.n 17179869184],λz=>[0<=z.2],λb z=>Mw (.n ((b0 b).nb+32*(b1 b).nb)) z.1 z.2.toNat,
 λz hx hp=>by
  have h0:0<=z.2:=hp _ q6W;have h:=Lz z.1 z.2.toNat ⟨hx.1,by have h2:Int.natAbs z.2<=17179869184:=hx.2;show z.2.toNat<=_;omega⟩ (.n (1099511627776+32*17179869184))
  rw[<-Qq z.1 z.2 h0]at h;exact h,
 λ_ _=>rfl,λb z hx hp=>qa (IR (Bnds.h2 hx).1.mag (by have h2:=(Bnds.h2 hx).2.int;show z.2.toNat<=_;omega)) rfl⟩
abbrev q6n:FI:=⟨136,[.mag,(.nat .i64)],[(.n 1030792151040),(.n 68719476736)],λ_=>[],λb z=>(λ(x:Nat)(s:Nat)=> .c (.one (.dt .mag (.n ((b0 b).nb+(b1 b).nb)) (x*2^s)))) z.1 z.2⟩
theorem q6o:q6n.OK Tryz.prog:=qB hmix 40 Tryz.func136 rfl rfl (by decide) [] (λ(x:Nat)(s:Nat) b hx hp=>qa (q1i (Bnds.h2 hx).1.mag (Bnds.h2 hx).2.nat) rfl) (λ(x:Nat)(s:Nat) hx hp=>by
 have hx0:qJ x 1030792151040:=hx.1;have hl0:(limbs x).length<=32212254721:=qv (q7h hx0);have hx1:s<=68719476736:=hx.2
 refine⟨.h 1 2 (.mk (.gro (.nat .u32) (.n 4294967295))) (.loop [.s 7 (.nat .i64) (.n 32212254721),.s 6 (.nat .u64) (.n 4294967295),.g 5 90005 (.nat .u32) (.n 4294967295) 100931731457] (λ((i,c,out):Nat×Nat×List Nat)=>UpX x s i c out) (λ((i,c,out):Nat×Nat×List Nat)=>(limbs x).length-i) (λ((i,c,out):Nat×Nat×List Nat)=> .cond (.h 6 8 (.i (.n (((limbs x).getD i 0)*2^(s%32)) 18446744073709551615)) (.h 6 9 (.i (.n (c+(((limbs x).getD i 0)*2^(s%32))) 18446744073709551615)) (.h 7 3 (.mk (.im (.nat .u32) (.n 4294967295))) (.nil)))) (.h 9 3 (.mk (.im (.nat .u32) (.n 4294967295))) (.pre 1009005 (.frz 38 true [38]) (.h 9 5 (.c Bc) (.nil)))))),kcast (by kernel_rfl) (I (?_:s/32=s/32) (I (by simp<;>omega:s/32=(List.replicate (s/32) (0:Nat)).length) (I (UpX.start x s:UpX x s 0 0 (List.replicate (s/32) (0:Nat))) (λ(i:Nat)(c:Nat)(out:List Nat)(hb1:HB [.s 7 (.nat .i64) (.n 32212254721),.s 6 (.nat .u64) (.n 4294967295),.g 5 90005 (.nat .u32) (.n 4294967295) 100931731457] (i,c,out))(hI:UpX x s i c out)=>have hv4:=(show i<=32212254721 from hb1.1);have hv5:=(show c<=4294967295 from hb1.2.1);have hv6:=(show out.length<=100931731457 from hb1.2.2.1);have hIl:=hI.hl;have hIi:=hI.hi;have hIc:=hI.hc;have hg1:=qj x i;have hbd:=q6j hI;Sp (i<(limbs x).length) (λh2=>I (?_:i<(limbs x).length) (I (Gr _ _ (by omega) (CK hg1 (by omega)):qK .shl .u64 (((limbs x).getD i 0:Nat):Int) ((s%32:Nat):Int) ((((limbs x).getD i 0)*2^(s%32):Nat):Int)) (I (q7i (CK hg1 (by omega)):((limbs x).getD i 0)*2^(s%32)<=18446744073709551615) (I (Gq _ _ rfl hIc hbd:qK .or .u64 (c:Int) ((((limbs x).getD i 0)*2^(s%32):Nat):Int) ((c+(((limbs x).getD i 0)*2^(s%32)):Nat):Int)) (I (q7i hbd:c+(((limbs x).getD i 0)*2^(s%32))<=18446744073709551615) (I (?_:out.length=out.length) (I (show(i+1)<=32212254721 by omega:Bnd (.nat .i64) (.n 32212254721) (i+1)) (I (by(try simp only[q6M,q6N,q6Q])<;>omega:out.length+[(c+(((limbs x).getD i 0)*2^(s%32)))%4294967296].length=(out++[(c+(((limbs x).getD i 0)*2^(s%32)))%4294967296]).length) (I (by(try simp only[q6M,q6N,q6Q])<;>omega:out.length+[(c+(((limbs x).getD i 0)*2^(s%32)))%4294967296].length<=100931731457) (q6q (hI.step (by omega) rfl:UpX x s (i+1) ((c+(((limbs x).getD i 0)*2^(s%32)))/2^32) (out++[(c+(((limbs x).getD i 0)*2^(s%32)))%4294967296])) (?_:(limbs x).length-(i+1)<(limbs x).length-i))))))))))) (λh3=>have hF:=hI.fin (by omega);I (?_:out.length=out.length) (I (by(try simp only[q6M,q6N,q6Q])<;>omega:out.length+[c].length=(out++[c]).length) (I (hF.2: ∀u∈out++[c],u<4294967296) ((hF.1:qe (out++[c])=x*2^s)))))))))⟩<;>omega)
abbrev q6m:Ctr Tryz.prog:=FI.c q6o
abbrev XG:FI:=⟨139,[.mag,(.nat .i64)],[(.n 1099511627776),(.n 1099511627776)],λ_=>[],λb z=>(λ(x:Nat)(s:Nat)=> .c (.one (.dt .mag (.n ((b0 b).nb)) (x/2^s)))) z.1 z.2⟩
theorem XH:XG.OK Tryz.prog:=qB hmix 55 Tryz.func139 rfl rfl (by decide) [] (λ(x:Nat)(s:Nat) b hx hp=>qa ((Bnds.h2 hx).1.magLe (q7b _ _)).mag rfl) (λ(x:Nat)(s:Nat) hx hp=>by
 have hx0:qJ x 1099511627776:=hx.1;have hl0:(limbs x).length<=34359738369:=qv (q7h hx0);have hx1:s<=1099511627776:=hx.2
 refine⟨.cond (.nil) ((λ(w:Nat)=> .h 3 3 (.mag w 1099511627776) (.h 4 2 (.mk (.arr (.nat .u32) (.n 4294967295))) (.loop [.s 6 (.nat .i64) (.n 34359738369),.a 19 (.nat .u32) (.n 4294967295)] (λ((i,out):Nat×List Nat)=>DownX w (s%32) i out) (λ((i,out):Nat×List Nat)=>(limbs w).length-i) (λ((i,out):Nat×List Nat)=> .cond (.cond (.h 10 8 (.i (.n (((limbs w).getD i 0)+(((limbs w).getD (i+1) 0)*2^32)) 18446744073709551615)) (.h 11 5 (.i (.n ((((limbs w).getD i 0)+(((limbs w).getD (i+1) 0)*2^32))/2^(s%32)) 18446744073709551615)) (.nil))) (.h 11 5 (.i (.n (((limbs w).getD i 0)/2^(s%32)) 18446744073709551615)) (.nil))) (.pre 12 (.frz 19 true [5]) (.h 12 1 (.c Bc) (.nil))))))) (x/4294967296^(s/32))),kcast (by kernel_rfl) (q6q (λ(h1:(limbs x).length<=s/32)=>(Oq (by omega):0=x/2^s)) (λ(h2: ¬((limbs x).length<=s/32))=>(λ(w:Nat)(hw:w=x/4294967296^(s/32))=>I (by omega:s/32<=(limbs x).length) (I (by rw[hw];exact Dw _ _:(limbs x).drop (s/32)=limbs w) (I (by rw[hw];exact Cb hx0 (q7b _ _):qJ w 1099511627776) (have hlw:=(qv (q7h (show qJ w 1099511627776 by rw[hw];exact Cb hx0 (q7b _ _))):(limbs w).length<=34359738369);I (by omega:(limbs w).length=(limbs w).length) (I (DownX.start w (s%32):DownX w (s%32) 0 (List.replicate ((limbs w).length) (0:Nat))) (λ(i:Nat)(out:List Nat)(hb3:HB [.s 6 (.nat .i64) (.n 34359738369),.a 19 (.nat .u32) (.n 4294967295)] (i,out))(hI:DownX w (s%32) i out)=>have hv8:=(show i<=34359738369 from hb3.1);have hv9:=(show∀u∈out,u<=4294967295 from hb3.2);have hIl:=hI.hl;have hIi:=hI.hi;have hg1:=qj w i;have hg2:=qj w (i+1);q6q (λ(h4:i<(limbs w).length)=>I (by omega:i<(limbs w).length) (q6q (λ(h5:i+1<(limbs w).length)=>I (by omega:i+1<(limbs w).length) (I (Gq _ 32 rfl hg1 (by omega):qK .or .u64 (((limbs w).getD i 0:Nat):Int) ((((limbs w).getD (i+1) 0)*2^32:Nat):Int) ((((limbs w).getD i 0)+(((limbs w).getD (i+1) 0)*2^32):Nat):Int)) (I (by omega:((limbs w).getD i 0)+(((limbs w).getD (i+1) 0)*2^32)<=18446744073709551615) (I (JK _ _ (by simp[IntKind.bits];omega):qK .shr .u64 ((((limbs w).getD i 0)+(((limbs w).getD (i+1) 0)*2^32):Nat):Int) ((s%32:Nat):Int) (((((limbs w).getD i 0)+(((limbs w).getD (i+1) 0)*2^32))/2^(s%32):Nat):Int)) (I (q7k (q7b _ _) (by omega):(((limbs w).getD i 0)+(((limbs w).getD (i+1) 0)*2^32))/2^(s%32)<=18446744073709551615) (I (by omega:i<(limbs w).length) (I (by omega:i<out.length) (I (show(i+1)<=34359738369 by omega:Bnd (.nat .i64) (.n 34359738369) (i+1)) (q6q (hI.step (by omega) (by omega) (by first|rfl|(have hq1:= @qS (limbs w) (i+1);omega)):DownX w (s%32) (i+1) (out.set i (((((limbs w).getD i 0)+(((limbs w).getD (i+1) 0)*2^32))/2^(s%32))%4294967296))) (by omega:(limbs w).length-(i+1)<(limbs w).length-i)))))))))) (λ(h6: ¬(i+1<(limbs w).length))=>I (JK _ _ (by simp[IntKind.bits];omega):qK .shr .u64 (((limbs w).getD i 0:Nat):Int) ((s%32:Nat):Int) ((((limbs w).getD i 0)/2^(s%32):Nat):Int)) (I (q7k (q7b _ _) (by omega):((limbs w).getD i 0)/2^(s%32)<=18446744073709551615) (I (by omega:i<(limbs w).length) (I (by omega:i<out.length) (I (show(i+1)<=34359738369 by omega:Bnd (.nat .i64) (.n 34359738369) (i+1)) (q6q (hI.step (by omega) (by omega) (by first|rfl|(have hq1:= @qS (limbs w) (i+1);omega)):DownX w (s%32) (i+1) (out.set i ((((limbs w).getD i 0)/2^(s%32))%4294967296))) (by omega:(limbs w).length-(i+1)<(limbs w).length-i))))))))) (λ(h7: ¬(i<(limbs w).length))=>I (by omega:(limbs w).length=out.length) (have hF:=hI.fin (by omega);I (hI.hu: ∀u∈out,u<4294967296) ((by rw[hF,hw];exact Ka x s:qe out=x/2^s)))))))))) (x/4294967296^(s/32)) rfl))⟩)
abbrev XF:Ctr Tryz.prog:=FI.c XH
abbrev q3v:FI:=⟨75,[.mag,.mag],[(.n 137438953536),(.n 137438953536)],λz=>(λ(x:Nat)(y:Nat)=>[0<y]) z.1 z.2,λb z=>(λ(x:Nat)(y:Nat)=> .tup [.one (.dt .mag (b0 b) (x/y)),.one (.dt .mag (b1 b) (x%y)),.one (.kn .i64 0)]) z.1 z.2⟩
theorem q3w:q3v.OK Tryz.prog:=qB hmix 163 Tryz.func75 rfl rfl (by decide) [(42,.c EJ),(73,.c Iv),(76,.c Li),(77,.c JD),(133,.c Lk),(134,.c Q8),(135,.c Mv),(136,.c q6m),(138,.c SB),(139,.c XF)] (λ(x:Nat)(y:Nat) b hx hp=>qc (qa ((Bnds.h2 hx).1.magLe (q7b _ _)) rfl) (qc (qa ((Bnds.h2 hx).2.magLe (q7h (q7q _ (hp _ (q6W))))) rfl) (qc AQ qy))) (λ(x:Nat)(y:Nat) hx hp=>by
 have hx0:qJ x 137438953536:=hx.1;have hl0:(limbs x).length<=4294967299:=qv (q7h hx0);have hx1:qJ y 137438953536:=hx.2;have hl1:(limbs y).length<=4294967299:=qv (q7h hx1);have hp0:0<y:=hp _ (q6W);have hyp:=mt (nl0 (x:=y)).1 (show¬y=0 by omega)
 refine⟨.cond (.dead) (.cond (.nil) (.cond (.nil) (.cond (.nil) (.h 12 3 (.i .sub) (.h 12 4 (.mag (y/4294967296^((limbs y).length-1)) 32) (.h 12 6 (.i .sub) ((λ(s:Nat)=> .h 15 3 (.i .sub) ((λ(L:Nat)=> .h 15 5 (.mk (.arr (.nat .u32) (.n 4294967295))) (.loop [.s 15 (.int .i64) (.n 17179869184),.s 5 .mag (.n 137438953568),.a 82 (.nat .u32) (.n 4294967295)] (λ((z,r,ql):Int×Nat×List Nat)=>DX (x*2^s) (y*2^s) L z ql r) (λ((z,r,ql):Int×Nat×List Nat)=>(z+1).toNat) (λ((z,r,ql):Int×Nat×List Nat)=> .cond (.cond (.h 21 4 (.ix (z.toNat+(limbs (y*2^s)).length)) (.cond (.h 23 7 (.ix (z.toNat+(limbs (y*2^s)).length-1)) (.h 23 10 (.i (.n ((((limbs r).getD (z.toNat+(limbs (y*2^s)).length) 0)*2^32)+((limbs r).getD (z.toNat+(limbs (y*2^s)).length-1) 0)) 18446744073709551615)) (.h 25 3 (.i .sub) (.h 26 5 (.c wi) (.loop [.s 17 (.nat .u64) (.n 4294967295),.s 18 .mag (.n 1099511627776)] (λ((d,p):Nat×Nat)=>EX (y*2^s) z.toNat r d p) (λ((d,p):Nat×Nat)=>d) (λ((d,p):Nat×Nat)=> .cond (.h 28 1 (.i .sub) (.h 29 3 (.c wi) (.nil))) (.h 30 4 (.ix z.toNat) (.nil)))))))) (.h 25 3 (.i .sub) (.h 26 5 (.c wi) (.loop [.s 17 (.nat .u64) (.n 4294967295),.s 18 .mag (.n 1099511627776)] (λ((d,p):Nat×Nat)=>EX (y*2^s) z.toNat r d p) (λ((d,p):Nat×Nat)=>d) (λ((d,p):Nat×Nat)=> .cond (.h 28 1 (.i .sub) (.h 29 3 (.c wi) (.nil))) (.h 30 4 (.ix z.toNat) (.nil)))))))) (.cond (.h 23 7 (.ix (z.toNat+(limbs (y*2^s)).length-1)) (.h 23 10 (.i (.n (0+((limbs r).getD (z.toNat+(limbs (y*2^s)).length-1) 0)) 18446744073709551615)) (.h 25 3 (.i .sub) (.h 26 5 (.c wi) (.loop [.s 17 (.nat .u64) (.n 4294967295),.s 18 .mag (.n 1099511627776)] (λ((d,p):Nat×Nat)=>EX (y*2^s) z.toNat r d p) (λ((d,p):Nat×Nat)=>d) (λ((d,p):Nat×Nat)=> .cond (.h 28 1 (.i .sub) (.h 29 3 (.c wi) (.nil))) (.h 30 4 (.ix z.toNat) (.nil)))))))) (.h 25 3 (.i .sub) (.h 26 5 (.c wi) (.loop [.s 17 (.nat .u64) (.n 4294967295),.s 18 .mag (.n 1099511627776)] (λ((d,p):Nat×Nat)=>EX (y*2^s) z.toNat r d p) (λ((d,p):Nat×Nat)=>d) (λ((d,p):Nat×Nat)=> .cond (.h 28 1 (.i .sub) (.h 29 3 (.c wi) (.nil))) (.h 30 4 (.ix z.toNat) (.nil)))))))) (.pre 32 (.frz 82 true [4]) (.h 32 1 (.c Bc) (.nil)))))) ((((limbs (x*2^s)).length) -((limbs (y*2^s)).length))+1))) (32-(bl (y/4294967296^((limbs y).length-1))))))))))),kcast (by kernel_rfl) (q6q (λ(h1:(limbs y).length=0)=>(absurd (nl0.1 h1) (by omega):False)) (λ(h2: ¬((limbs y).length=0))=>q6q (λ(h3:qZ x y<0)=>q6q ((Nat.div_eq_of_lt (vw.1 (by omega))).symm:0=x/y) ((q7p (vw.1 (by omega))).symm:x=x%y)) (λ(h4: ¬(qZ x y<0))=>have hyx:=(show y<=x from Nat.le_of_not_lt (mt vw.2 (by assumption)));have hly:=zL hyx;q6q (λ(h5:xk x=true)=>have hlx:=(show(limbs x).length<=2 from of_decide_eq_true (by assumption));have hxx:=(xw_y hlx).1;have hxy:=(xw_y (x:=y) (by omega)).1;I (by omega:0<xw y) (I (by omega:0<xw y) (q6q (by rw[(xw_y (x:=x) (by assumption)).1,(xw_y (x:=y) (by omega)).1]:(xw x)/(xw y)=x/y) (by rw[(xw_y (x:=x) (by assumption)).1,(xw_y (x:=y) (by omega)).1]:(xw x)%(xw y)=x%y)))) (λ(h6: ¬(xk x=true))=>q6q (λ(h7:(limbs y).length=1)=>have hy1:=(show(limbs y).getD 0 0=y from N7 (by omega));I (by omega:0<(limbs y).length) (I (by omega:0<(limbs y).getD 0 0) (q6q (by rw[hy1]:x/((limbs y).getD 0 0)=x/y) (by rw[hy1]:x%((limbs y).getD 0 0)=x%y)))) (λ(h8: ¬((limbs y).length=1))=>have hb32:=(Bz I1:bl (y/4294967296^((limbs y).length-1))<=32);I (by omega:1<=(limbs y).length) (I (by omega:((limbs y).length) -1<=(limbs y).length) (I (Dw _ _:(limbs y).drop (((limbs y).length) -1)=limbs (y/4294967296^((limbs y).length-1))) (I (I1:qJ (y/4294967296^((limbs y).length-1)) 32) (I (Bz I1:bl (y/4294967296^((limbs y).length-1))<=32) ((λ(s:Nat)(hs:s=32-(bl (y/4294967296^((limbs y).length-1))))=>have hs32:=(show s<=32 by omega);have hV0:=(q7y hp0 (q7C (by omega)):0<y*2^s);have hVA:=(zL (q7x _ hyx):(limbs (y*2^s)).length<=(limbs (x*2^s)).length);have hV1:=(q7z (mt nl0.1 (by omega)):0<(limbs (y*2^s)).length);have hvt:=wy hV1;I (by omega:(limbs (y*2^s)).length<=(limbs (x*2^s)).length) ((λ(L:Nat)(hL:L=(((limbs (x*2^s)).length) -((limbs (y*2^s)).length))+1)=>I (by omega:L=L) (I (by subst hL;exact DX.start (n:=(limbs (y*2^s)).length) (by omega) rfl (by omega) rfl:DX (x*2^s) (y*2^s) L ((((limbs (x*2^s)).length:Nat):Int) -(((limbs (y*2^s)).length:Nat):Int)) (List.replicate L (0:Nat)) (x*2^s)) (λ(z:Int)(r:Nat)(ql:List Nat)(hb9:HB [.s 15 (.int .i64) (.n 17179869184),.s 5 .mag (.n 137438953568),.a 82 (.nat .u32) (.n 4294967295)] (z,r,ql))(hD:DX (x*2^s) (y*2^s) L z ql r)=>have hv34:=(show Int.natAbs z<=17179869184 from hb9.1);have hv35:=(show∀u∈ql,u<=4294967295 from hb9.2.2);have hDz:=hD.hz;have hDz1:=hD.hz1;have hDl:=hD.hl;q6q (λ(h10:0<=z)=>have hr1:=qj r (z.toNat+(limbs (y*2^s)).length);have hr2:=qj r (z.toNat+(limbs (y*2^s)).length-1);q6q (λ(h11:z+(((limbs (y*2^s)).length:Nat):Int)<(((limbs r).length:Nat):Int))=>I (by omega:z+(((limbs (y*2^s)).length:Nat):Int)=((z.toNat+(limbs (y*2^s)).length:Nat):Int)) (I (by omega:z.toNat+(limbs (y*2^s)).length<(limbs r).length) (q6q (λ(h12:(z+(((limbs (y*2^s)).length:Nat):Int)) -1<(((limbs r).length:Nat):Int))=>I (by omega:(z+(((limbs (y*2^s)).length:Nat):Int)) -1=((z.toNat+(limbs (y*2^s)).length-1:Nat):Int)) (I (by omega:z.toNat+(limbs (y*2^s)).length-1<(limbs r).length) (I (Cm _ 32 rfl (qj _ _) (by omega):qK .or .u64 ((((limbs r).getD (z.toNat+(limbs (y*2^s)).length) 0)*2^32:Nat):Int) (((limbs r).getD (z.toNat+(limbs (y*2^s)).length-1) 0:Nat):Int) (((((limbs r).getD (z.toNat+(limbs (y*2^s)).length) 0)*2^32)+((limbs r).getD (z.toNat+(limbs (y*2^s)).length-1) 0):Nat):Int)) (I (by omega:(((limbs r).getD (z.toNat+(limbs (y*2^s)).length) 0)*2^32)+((limbs r).getD (z.toNat+(limbs (y*2^s)).length-1) 0)<=18446744073709551615) (have hT:=(show(((limbs r).getD (z.toNat+(limbs (y*2^s)).length) 0)*2^32)+((limbs r).getD (z.toNat+(limbs (y*2^s)).length-1) 0)=(limbs r).getD (z.toNat+(limbs (y*2^s)).length) 0*4294967296+(limbs r).getD (z.toNat+(limbs (y*2^s)).length-1) 0 from by(have hq1:= @qS (limbs r) (z.toNat+(limbs (y*2^s)).length);have hq2:= @qS (limbs r) (z.toNat+(limbs (y*2^s)).length-1);omega));I (by omega:1<=(limbs (y*2^s)).length) (I (by omega:((limbs (y*2^s)).length) -1<(limbs (y*2^s)).length) (I (by omega:0<(limbs (y*2^s)).getD (((limbs (y*2^s)).length) -1) 0) (I (by omega:0<=z) (I (hD.est (by omega) rfl hV0 (by omega) rfl hT:EX (y*2^s) z.toNat r (min (((((limbs r).getD (z.toNat+(limbs (y*2^s)).length) 0)*2^32)+((limbs r).getD (z.toNat+(limbs (y*2^s)).length-1) 0))/((limbs (y*2^s)).getD (((limbs (y*2^s)).length) -1) 0)) 4294967295) (((y*2^s)*(min (((((limbs r).getD (z.toNat+(limbs (y*2^s)).length) 0)*2^32)+((limbs r).getD (z.toNat+(limbs (y*2^s)).length-1) 0))/((limbs (y*2^s)).getD (((limbs (y*2^s)).length) -1) 0)) 4294967295))*4294967296^z.toNat)) (λ(d:Nat)(p:Nat)(hb13:HB [.s 17 (.nat .u64) (.n 4294967295),.s 18 .mag (.n 1099511627776)] (d,p))(hE:EX (y*2^s) z.toNat r d p)=>have hv16:=(show d<=4294967295 from hb13.1);q6q (λ(h14:0<qZ p r)=>have hG:=hE.gt hV0 (As.1 (by assumption));I (by omega:1<=d) (I (by omega:0<=z) (I (hG.2.1:(y*2^s)*4294967296^z.toNat<=p) (q6q (hG.2.2:EX (y*2^s) z.toNat r (d-1) (p-((y*2^s)*4294967296^z.toNat))) (by have:=hG.1;omega:d-1<d))))) (λ(h15: ¬(0<qZ p r))=>have hle:=(show p<=r from Nat.le_of_not_lt (mt As.2 (by assumption)));I (by omega:z=((z.toNat:Nat):Int)) (I (by omega:z.toNat<L) (I (by omega:z.toNat<ql.length) (I (hle:p<=r) (I (show Int.natAbs (z-1)<=17179869184 by omega:Bnd (.int .i64) (.n 17179869184) (z-1)) (q6q (hD.next (by omega) rfl hV0 hE hle:DX (x*2^s) (y*2^s) L (z-1) (ql.set z.toNat d) (r-p)) (by omega:((z-1)+1).toNat<(z+1).toNat))))))))))))))))) (λ(h17: ¬((z+(((limbs (y*2^s)).length:Nat):Int)) -1<(((limbs r).length:Nat):Int)))=>have hT:=(show((limbs r).getD (z.toNat+(limbs (y*2^s)).length) 0)*2^32=(limbs r).getD (z.toNat+(limbs (y*2^s)).length) 0*4294967296+(limbs r).getD (z.toNat+(limbs (y*2^s)).length-1) 0 from by(have hq1:= @qS (limbs r) (z.toNat+(limbs (y*2^s)).length);have hq2:= @qS (limbs r) (z.toNat+(limbs (y*2^s)).length-1);omega));I (by omega:1<=(limbs (y*2^s)).length) (I (by omega:((limbs (y*2^s)).length) -1<(limbs (y*2^s)).length) (I (by omega:0<(limbs (y*2^s)).getD (((limbs (y*2^s)).length) -1) 0) (I (by omega:0<=z) (I (hD.est (by omega) rfl hV0 (by omega) rfl hT:EX (y*2^s) z.toNat r (min ((((limbs r).getD (z.toNat+(limbs (y*2^s)).length) 0)*2^32)/((limbs (y*2^s)).getD (((limbs (y*2^s)).length) -1) 0)) 4294967295) (((y*2^s)*(min ((((limbs r).getD (z.toNat+(limbs (y*2^s)).length) 0)*2^32)/((limbs (y*2^s)).getD (((limbs (y*2^s)).length) -1) 0)) 4294967295))*4294967296^z.toNat)) (λ(d:Nat)(p:Nat)(hb18:HB [.s 17 (.nat .u64) (.n 4294967295),.s 18 .mag (.n 1099511627776)] (d,p))(hE:EX (y*2^s) z.toNat r d p)=>have hv21:=(show d<=4294967295 from hb18.1);q6q (λ(h19:0<qZ p r)=>have hG:=hE.gt hV0 (As.1 (by assumption));I (by omega:1<=d) (I (by omega:0<=z) (I (hG.2.1:(y*2^s)*4294967296^z.toNat<=p) (q6q (hG.2.2:EX (y*2^s) z.toNat r (d-1) (p-((y*2^s)*4294967296^z.toNat))) (by have:=hG.1;omega:d-1<d))))) (λ(h20: ¬(0<qZ p r))=>have hle:=(show p<=r from Nat.le_of_not_lt (mt As.2 (by assumption)));I (by omega:z=((z.toNat:Nat):Int)) (I (by omega:z.toNat<L) (I (by omega:z.toNat<ql.length) (I (hle:p<=r) (I (show Int.natAbs (z-1)<=17179869184 by omega:Bnd (.int .i64) (.n 17179869184) (z-1)) (q6q (hD.next (by omega) rfl hV0 hE hle:DX (x*2^s) (y*2^s) L (z-1) (ql.set z.toNat d) (r-p)) (by omega:((z-1)+1).toNat<(z+1).toNat)))))))))))))))) (λ(h22: ¬(z+(((limbs (y*2^s)).length:Nat):Int)<(((limbs r).length:Nat):Int)))=>q6q (λ(h23:(z+(((limbs (y*2^s)).length:Nat):Int)) -1<(((limbs r).length:Nat):Int))=>I (by omega:(z+(((limbs (y*2^s)).length:Nat):Int)) -1=((z.toNat+(limbs (y*2^s)).length-1:Nat):Int)) (I (by omega:z.toNat+(limbs (y*2^s)).length-1<(limbs r).length) (I (Y8 (qj _ _):qK .or .u64 0 (((limbs r).getD (z.toNat+(limbs (y*2^s)).length-1) 0:Nat):Int) ((0+((limbs r).getD (z.toNat+(limbs (y*2^s)).length-1) 0):Nat):Int)) (I (by omega:0+((limbs r).getD (z.toNat+(limbs (y*2^s)).length-1) 0)<=18446744073709551615) (have hT:=(show 0+((limbs r).getD (z.toNat+(limbs (y*2^s)).length-1) 0)=(limbs r).getD (z.toNat+(limbs (y*2^s)).length) 0*4294967296+(limbs r).getD (z.toNat+(limbs (y*2^s)).length-1) 0 from by(have hq1:= @qS (limbs r) (z.toNat+(limbs (y*2^s)).length);have hq2:= @qS (limbs r) (z.toNat+(limbs (y*2^s)).length-1);omega));I (by omega:1<=(limbs (y*2^s)).length) (I (by omega:((limbs (y*2^s)).length) -1<(limbs (y*2^s)).length) (I (by omega:0<(limbs (y*2^s)).getD (((limbs (y*2^s)).length) -1) 0) (I (by omega:0<=z) (I (hD.est (by omega) rfl hV0 (by omega) rfl hT:EX (y*2^s) z.toNat r (min ((0+((limbs r).getD (z.toNat+(limbs (y*2^s)).length-1) 0))/((limbs (y*2^s)).getD (((limbs (y*2^s)).length) -1) 0)) 4294967295) (((y*2^s)*(min ((0+((limbs r).getD (z.toNat+(limbs (y*2^s)).length-1) 0))/((limbs (y*2^s)).getD (((limbs (y*2^s)).length) -1) 0)) 4294967295))*4294967296^z.toNat)) (λ(d:Nat)(p:Nat)(hb24:HB [.s 17 (.nat .u64) (.n 4294967295),.s 18 .mag (.n 1099511627776)] (d,p))(hE:EX (y*2^s) z.toNat r d p)=>have hv27:=(show d<=4294967295 from hb24.1);q6q (λ(h25:0<qZ p r)=>have hG:=hE.gt hV0 (As.1 (by assumption));I (by omega:1<=d) (I (by omega:0<=z) (I (hG.2.1:(y*2^s)*4294967296^z.toNat<=p) (q6q (hG.2.2:EX (y*2^s) z.toNat r (d-1) (p-((y*2^s)*4294967296^z.toNat))) (by have:=hG.1;omega:d-1<d))))) (λ(h26: ¬(0<qZ p r))=>have hle:=(show p<=r from Nat.le_of_not_lt (mt As.2 (by assumption)));I (by omega:z=((z.toNat:Nat):Int)) (I (by omega:z.toNat<L) (I (by omega:z.toNat<ql.length) (I (hle:p<=r) (I (show Int.natAbs (z-1)<=17179869184 by omega:Bnd (.int .i64) (.n 17179869184) (z-1)) (q6q (hD.next (by omega) rfl hV0 hE hle:DX (x*2^s) (y*2^s) L (z-1) (ql.set z.toNat d) (r-p)) (by omega:((z-1)+1).toNat<(z+1).toNat))))))))))))))))) (λ(h28: ¬((z+(((limbs (y*2^s)).length:Nat):Int)) -1<(((limbs r).length:Nat):Int)))=>have hT:=(show 0=(limbs r).getD (z.toNat+(limbs (y*2^s)).length) 0*4294967296+(limbs r).getD (z.toNat+(limbs (y*2^s)).length-1) 0 from by(have hq1:= @qS (limbs r) (z.toNat+(limbs (y*2^s)).length);have hq2:= @qS (limbs r) (z.toNat+(limbs (y*2^s)).length-1);omega));I (by omega:1<=(limbs (y*2^s)).length) (I (by omega:((limbs (y*2^s)).length) -1<(limbs (y*2^s)).length) (I (by omega:0<(limbs (y*2^s)).getD (((limbs (y*2^s)).length) -1) 0) (I (by omega:0<=z) (I (hD.est (by omega) rfl hV0 (by omega) rfl hT:EX (y*2^s) z.toNat r (min (0/((limbs (y*2^s)).getD (((limbs (y*2^s)).length) -1) 0)) 4294967295) (((y*2^s)*(min (0/((limbs (y*2^s)).getD (((limbs (y*2^s)).length) -1) 0)) 4294967295))*4294967296^z.toNat)) (λ(d:Nat)(p:Nat)(hb29:HB [.s 17 (.nat .u64) (.n 4294967295),.s 18 .mag (.n 1099511627776)] (d,p))(hE:EX (y*2^s) z.toNat r d p)=>have hv32:=(show d<=4294967295 from hb29.1);q6q (λ(h30:0<qZ p r)=>have hG:=hE.gt hV0 (As.1 (by assumption));I (by omega:1<=d) (I (by omega:0<=z) (I (hG.2.1:(y*2^s)*4294967296^z.toNat<=p) (q6q (hG.2.2:EX (y*2^s) z.toNat r (d-1) (p-((y*2^s)*4294967296^z.toNat))) (by have:=hG.1;omega:d-1<d))))) (λ(h31: ¬(0<qZ p r))=>have hle:=(show p<=r from Nat.le_of_not_lt (mt As.2 (by assumption)));I (by omega:z=((z.toNat:Nat):Int)) (I (by omega:z.toNat<L) (I (by omega:z.toNat<ql.length) (I (hle:p<=r) (I (show Int.natAbs (z-1)<=17179869184 by omega:Bnd (.int .i64) (.n 17179869184) (z-1)) (q6q (hD.next (by omega) rfl hV0 hE hle:DX (x*2^s) (y*2^s) L (z-1) (ql.set z.toNat d) (r-p)) (by omega:((z-1)+1).toNat<(z+1).toNat))))))))))))))) (λ(h33: ¬(0<=z))=>I (by omega:L=ql.length) (have hF:=hD.fin hp0 (by omega);I (hD.hu: ∀u∈ql,u<4294967296) (q6q (hF.1:qe ql=x/y) (hF.2:r/2^s=x%y))))))) ((((limbs (x*2^s)).length) -((limbs (y*2^s)).length))+1) rfl)) (32-(bl (y/4294967296^((limbs y).length-1)))) rfl))))))))))⟩)
abbrev Qb:Ctr Tryz.prog:=FI.c q3w
abbrev q3x:FI:=⟨74,[.mag,.mag],[(.n 137438953536),(.n 137438953536)],λ_=>[],λb z=>(λ(x:Nat)(y:Nat)=> .c (.one (.dt .mag (.n (max (b0 b).nb (b1 b).nb)) (Nat.gcd x y)))) z.1 z.2⟩
theorem q3y:q3x.OK Tryz.prog:=qB hmix 51 Tryz.func74 rfl rfl (by decide) [(73,.c Iv),(75,.c Qb),(77,.c JD),(133,.c Lk)] (λ(x:Nat)(y:Nat) b hx hp=>qa (M8 (Bnds.h2 hx).1.mag (Bnds.h2 hx).2.mag) rfl) (λ(x:Nat)(y:Nat) hx hp=>by
 have hx0:qJ x 137438953536:=hx.1;have hl0:(limbs x).length<=4294967299:=qv (q7h hx0);have hx1:qJ y 137438953536:=hx.2;have hl1:(limbs y).length<=4294967299:=qv (q7h hx1)
 refine⟨.loop [.s 0 .mag (.n 137438953536),.s 1 .mag (.n 137438953536)] (λ((a,b):Nat×Nat)=>Nat.gcd a b=Nat.gcd x y) (λ((a,b):Nat×Nat)=>b) (λ((a,b):Nat×Nat)=> .cond (.cond (.cond (.loop [.s 5 (.nat .u64) (.n 18446744073709551615),.s 7 (.nat .u64) (.n 18446744073709551615)] (λ((u,v):Nat×Nat)=>Nat.gcd u v=Nat.gcd x y) (λ((u,v):Nat×Nat)=>v) (λ((u,v):Nat×Nat)=> .nil)) (.nil)) (.nil)) (.nil)),kcast (by kernel_rfl) (I (rfl:Nat.gcd x y=Nat.gcd x y) (λ(a:Nat)(b:Nat)(hb1:HB [.s 0 .mag (.n 137438953536),.s 1 .mag (.n 137438953536)] (a,b))(hC:Nat.gcd a b=Nat.gcd x y)=>Sp (0<(limbs b).length) (λh2=>Sp (xk a=true) (λh3=>Sp (xk b=true) (λh4=>I (by rw[(xw_y (x:=a) (of_decide_eq_true (by assumption))).1,(xw_y (x:=b) (of_decide_eq_true (by assumption))).1];exact hC:Nat.gcd (xw a) (xw b)=Nat.gcd x y) (λ(u:Nat)(v:Nat)(hb5:HB [.s 5 (.nat .u64) (.n 18446744073709551615),.s 7 (.nat .u64) (.n 18446744073709551615)] (u,v))(hK:Nat.gcd u v=Nat.gcd x y)=>have hv8:=(show u<=18446744073709551615 from hb5.1);have hv9:=(show v<=18446744073709551615 from hb5.2);Sp (v≠0) (λh6=>I (?_:0<v) (q6q ((wo u v).trans hK:Nat.gcd v (u%v)=Nat.gcd x y) (q7q _ (by omega):u%v<v))) (λh7=>(by rw[show v=0 by omega,Nat.gcd_zero_right]at hK;exact hK:u=Nat.gcd x y)))) (λh10=>have hb0:=(show 0<b from q7z (λe=>by have:=nl0.2 e;omega));I (hb0:0<b) (q6q ((wo a b).trans hC:Nat.gcd b (a%b)=Nat.gcd x y) (q7q _ hb0:a%b<b)))) (λh11=>have hb0:=(show 0<b from q7z (λe=>by have:=nl0.2 e;omega));I (hb0:0<b) (q6q ((wo a b).trans hC:Nat.gcd b (a%b)=Nat.gcd x y) (q7q _ hb0:a%b<b)))) (λh12=>(by have e:=nl0.1 (show(limbs b).length=0 by omega);rw[e,Nat.gcd_zero_right]at hC;exact hC:a=Nat.gcd x y))))⟩<;>omega)
abbrev Qc:Ctr Tryz.prog:=FI.c q3y
abbrev Y2:FI:=⟨16,[.rat],[(.n 68719476736)],λ_=>[],λb z=>(λ(x:Rat)=> .c (.one (.dt (.int .i64) (.n 1) (jb x)))) z⟩
theorem Y3:Y2.OK Tryz.prog:=qB hmix 9 Tryz.func16 rfl rfl (by decide) [] (λ(x:Rat) b hx hp=>qa (KU x) rfl) (λ(x:Rat) hx hp=>by
 refine⟨.nil,kcast (by kernel_rfl) (Sp ((limbs x.num.natAbs).length=0) (λh1=>(by rw[jb,if_pos (nl0.1 (by assumption))]:0=jb x)) (λh2=>Sp (x.num<0) (λh3=>(by rw[jb,if_neg (mt nl0.2 (by assumption)),if_pos (by assumption)]:(-1)=jb x)) (λh4=>(by rw[jb,if_neg (mt nl0.2 (by assumption)),if_neg (by assumption)]:1=jb x))))⟩)
abbrev Fx:Ctr Tryz.prog:=FI.c Y3
abbrev q3I:FI:=⟨39,[.rat],[(.n 1099511627776)],λ_=>[],λb z=>(λ(x:Rat)=> .c (.one (.dt .mag (.n ((b0 b).nb+1)) (x.den)))) z⟩
theorem q3J:q3I.OK Tryz.prog:=qB hmix 10 Tryz.func39 rfl rfl (by decide) [] (λ(x:Rat) b hx hp=>qa (A4 (Bnds.h1 hx).rat.2) rfl) (λ(x:Rat) hx hp=>by
 have hx0:Bnd .rat (.n 1099511627776) x:=hx
 refine⟨.cond (.h 2 0 (.mk (.im (.nat .u32) (.n 4294967295))) (.h 2 1 (.mag 1 1) (.nil))) (.h 3 1 (.mag x.den 1099511627777) (.nil)),kcast (by kernel_rfl) (Sp ((denL x.den).length=0) (λh1=>I (Aw.symm:[1]=limbs 1) (I (I0 rfl:qJ 1 1) (((C6 x.den_nz (by omega)).symm:1=x.den)))) (λh2=>I (BA (by omega):denL x.den=limbs x.den) (I (A4 hx0.2:qJ x.den 1099511627777) ((Eq.refl x.den)))))⟩)
abbrev Dl:Ctr Tryz.prog:=FI.c q3J
abbrev Y4:FI:=⟨44,[(.int .i64)],[(.n 4611686018427387904)],λ_=>[],λb z=>(λ(v:Int)=> .tup [(.one (.dt .mag (.n (Nat.log2 (b0 b).nb+1)) (v.natAbs))),.one (.dt .bool .u (decide (v<0)))]) z⟩
theorem Y5:Y4.OK Tryz.prog:=qB hmix 15 Tryz.func44 rfl rfl (by decide) [(77,.c JD)] (λ(v:Int) b hx hp=>qc (qa (A6 (Bnds.h1 hx).int) rfl) (qc (qa trivial rfl) qy)) (λ(v:Int) hx hp=>by
 have hx0:Int.natAbs v<=4611686018427387904:=hx
 refine⟨.cond (.h 2 3 (.i (.n (v.natAbs-1) 4611686018427387904)) (.nil)) (.h 3 1 (.i (.n v.natAbs 4611686018427387904)) (.nil)),kcast (by kernel_rfl) (Sp (v<0) (λh1=>I (by rw[show-(v+1)=((v.natAbs-1:Nat):Int) by omega];exact wX (by omega):IntKind.wrap .u64 (-(v+1))=((v.natAbs-1:Nat):Int)) (I (?_:v.natAbs-1<=4611686018427387904) (q6q (?_:(v.natAbs-1)+1=v.natAbs) ((decide_eq_true (by assumption)).symm:true=decide (v<0))))) (λh2=>I (by rw[show v=((v.natAbs:Nat):Int) by omega];exact wX (by omega):IntKind.wrap .u64 v=((v.natAbs:Nat):Int)) (I (?_:v.natAbs<=4611686018427387904) (q6q (Eq.refl v.natAbs) ((decide_eq_false (by assumption)).symm:false=decide (v<0))))))⟩<;>omega)
abbrev My:Ctr Tryz.prog:=FI.c Y5
abbrev Qi:FI:=⟨40,[.bool,.mag,.mag],[.u,(.n 137438953536),(.n 137438953536)],λz=>(λ(neg:Bool)(n:Nat)(d:Nat)=>[0<d]) z.1 z.2.1 z.2.2,λb z=>(λ(neg:Bool)(n:Nat)(d:Nat)=> .c (.agg [.dt .rat (.n (max (b1 b).nb (b2 b).nb)) (qm neg n d)])) z.1 z.2.1 z.2.2⟩
theorem Qj:Qi.OK Tryz.prog:=qB hmix 55 Tryz.func40 rfl rfl (by decide) [(73,.c Iv),(74,.c Qc),(75,.c Qb)] (λ(neg:Bool)(n:Nat)(d:Nat) b hx hp=>jL (Ga (qk (Nat.le_max_left _ _) (Bnds.h3 hx).2.1.mag) (qk (Nat.le_max_right _ _) (Bnds.h3 hx).2.2.mag))) (λ(neg:Bool)(n:Nat)(d:Nat) hx hp=>by
 have hx1:qJ n 137438953536:=hx.2.1;have hl1:(limbs n).length<=4294967299:=qv (q7h hx1);have hx2:qJ d 137438953536:=hx.2.2;have hl2:(limbs d).length<=4294967299:=qv (q7h hx2);have hp0:0<d:=hp _ (q6W)
 refine⟨.cond (.nil) ((λ(g:Nat)=> .cond (.cond (.cond (.h 10 3 (.rat (qm neg n d) 137438953536) (.nil)) (.h 10 3 (.rat (qm neg n d) 137438953536) (.nil))) (.h 10 3 (.rat (qm neg n d) 137438953536) (.nil))) (.cond (.cond (.cond (.h 10 3 (.rat (qm neg n d) 137438953536) (.nil)) (.h 10 3 (.rat (qm neg n d) 137438953536) (.nil))) (.h 10 3 (.rat (qm neg n d) 137438953536) (.nil))) (.cond (.cond (.h 10 3 (.rat (qm neg n d) 137438953536) (.nil)) (.h 10 3 (.rat (qm neg n d) 137438953536) (.nil))) (.h 10 3 (.rat (qm neg n d) 137438953536) (.nil))))) (Nat.gcd n d)),kcast (by kernel_rfl) (q6q (λ(h1:(limbs n).length=0)=>(by rw[nl0.1 (show(limbs n).length=0 by assumption),DS]:0=qm neg n d)) (λ(h2: ¬((limbs n).length=0))=>have hn0:=(show 0<n from q7z (mt nl0.2 (by omega)));have hd0:=hp0;(λ(g:Nat)(hg:g=Nat.gcd n d)=>have hg0:=(show 0<g from hg▸Nat.gcd_pos_of_pos_right _ hd0);have hgl:=(q7z (mt nl0.1 (show¬g=0 by omega)):0<(limbs g).length);q6q (λ(h3:(limbs g).length≠1)=>I (by omega:0<g) (I (by omega:0<g) (q6q (λ(h4:(limbs (d/g)).length=1)=>I (by omega:0<(limbs (d/g)).length) (q6q (λ(h5:(limbs (d/g)).getD 0 0=1)=>I ((jU hn0 hd0).symm:neg=decide ((qm neg n d).num<0)) (I (by rw[jF hd0,<-hg]<;>first|rfl|(rw[hg1,q7d]<;>rfl):n/g=(qm neg n d).num.natAbs) (I (by rw[(jp hd0).2,<-hg];first|exact zA (by omega) (by omega)|(rw[hg1,q7d];exact zA (by omega) (by omega)):(qm neg n d).den=1) (I ((qT (p:=137438953536) (qk (by decide) hx1) (qX (qk (by decide) hx2)) hd0).1:qJ (qm neg n d).num.natAbs 137438953536) (I ((qT (p:=137438953536) (qk (by decide) hx1) (qX (qk (by decide) hx2)) hd0).2:le2 (qm neg n d).den 137438953536) ((Eq.refl (qm neg n d)))))))) (λ(h6: ¬((limbs (d/g)).getD 0 0=1))=>I ((jU hn0 hd0).symm:neg=decide ((qm neg n d).num<0)) (I (by rw[jF hd0,<-hg]<;>first|rfl|(rw[hg1,q7d]<;>rfl):n/g=(qm neg n d).num.natAbs) (I (zq (by rw[(jp hd0).2,<-hg]<;>first|rfl|(rw[hg1,q7d]<;>rfl)) (by omega):limbs (d/g)=denL (qm neg n d).den) (I ((qT (p:=137438953536) (qk (by decide) hx1) (qX (qk (by decide) hx2)) hd0).1:qJ (qm neg n d).num.natAbs 137438953536) (I ((qT (p:=137438953536) (qk (by decide) hx1) (qX (qk (by decide) hx2)) hd0).2:le2 (qm neg n d).den 137438953536) ((Eq.refl (qm neg n d)))))))))) (λ(h7: ¬((limbs (d/g)).length=1))=>I ((jU hn0 hd0).symm:neg=decide ((qm neg n d).num<0)) (I (by rw[jF hd0,<-hg]<;>first|rfl|(rw[hg1,q7d]<;>rfl):n/g=(qm neg n d).num.natAbs) (I (zq (by rw[(jp hd0).2,<-hg]<;>first|rfl|(rw[hg1,q7d]<;>rfl)) (by omega):limbs (d/g)=denL (qm neg n d).den) (I ((qT (p:=137438953536) (qk (by decide) hx1) (qX (qk (by decide) hx2)) hd0).1:qJ (qm neg n d).num.natAbs 137438953536) (I ((qT (p:=137438953536) (qk (by decide) hx1) (qX (qk (by decide) hx2)) hd0).2:le2 (qm neg n d).den 137438953536) ((Eq.refl (qm neg n d))))))))))) (λ(h8: ¬((limbs g).length≠1))=>I (by omega:0<(limbs g).length) (q6q (λ(h9:(limbs g).getD 0 0≠1)=>I (by omega:0<g) (I (by omega:0<g) (q6q (λ(h10:(limbs (d/g)).length=1)=>I (by omega:0<(limbs (d/g)).length) (q6q (λ(h11:(limbs (d/g)).getD 0 0=1)=>I ((jU hn0 hd0).symm:neg=decide ((qm neg n d).num<0)) (I (by rw[jF hd0,<-hg]<;>first|rfl|(rw[hg1,q7d]<;>rfl):n/g=(qm neg n d).num.natAbs) (I (by rw[(jp hd0).2,<-hg];first|exact zA (by omega) (by omega)|(rw[hg1,q7d];exact zA (by omega) (by omega)):(qm neg n d).den=1) (I ((qT (p:=137438953536) (qk (by decide) hx1) (qX (qk (by decide) hx2)) hd0).1:qJ (qm neg n d).num.natAbs 137438953536) (I ((qT (p:=137438953536) (qk (by decide) hx1) (qX (qk (by decide) hx2)) hd0).2:le2 (qm neg n d).den 137438953536) ((Eq.refl (qm neg n d)))))))) (λ(h12: ¬((limbs (d/g)).getD 0 0=1))=>I ((jU hn0 hd0).symm:neg=decide ((qm neg n d).num<0)) (I (by rw[jF hd0,<-hg]<;>first|rfl|(rw[hg1,q7d]<;>rfl):n/g=(qm neg n d).num.natAbs) (I (zq (by rw[(jp hd0).2,<-hg]<;>first|rfl|(rw[hg1,q7d]<;>rfl)) (by omega):limbs (d/g)=denL (qm neg n d).den) (I ((qT (p:=137438953536) (qk (by decide) hx1) (qX (qk (by decide) hx2)) hd0).1:qJ (qm neg n d).num.natAbs 137438953536) (I ((qT (p:=137438953536) (qk (by decide) hx1) (qX (qk (by decide) hx2)) hd0).2:le2 (qm neg n d).den 137438953536) ((Eq.refl (qm neg n d)))))))))) (λ(h13: ¬((limbs (d/g)).length=1))=>I ((jU hn0 hd0).symm:neg=decide ((qm neg n d).num<0)) (I (by rw[jF hd0,<-hg]<;>first|rfl|(rw[hg1,q7d]<;>rfl):n/g=(qm neg n d).num.natAbs) (I (zq (by rw[(jp hd0).2,<-hg]<;>first|rfl|(rw[hg1,q7d]<;>rfl)) (by omega):limbs (d/g)=denL (qm neg n d).den) (I ((qT (p:=137438953536) (qk (by decide) hx1) (qX (qk (by decide) hx2)) hd0).1:qJ (qm neg n d).num.natAbs 137438953536) (I ((qT (p:=137438953536) (qk (by decide) hx1) (qX (qk (by decide) hx2)) hd0).2:le2 (qm neg n d).den 137438953536) ((Eq.refl (qm neg n d))))))))))) (λ(h14: ¬((limbs g).getD 0 0≠1))=>have hg1:=(zA (by omega) (by omega):g=1);q6q (λ(h15:(limbs d).length=1)=>I (by omega:0<(limbs d).length) (q6q (λ(h16:(limbs d).getD 0 0=1)=>I ((jU hn0 hd0).symm:neg=decide ((qm neg n d).num<0)) (I (by rw[jF hd0,<-hg]<;>first|rfl|(rw[hg1,q7d]<;>rfl):n=(qm neg n d).num.natAbs) (I (by rw[(jp hd0).2,<-hg];first|exact zA (by omega) (by omega)|(rw[hg1,q7d];exact zA (by omega) (by omega)):(qm neg n d).den=1) (I ((qT (p:=137438953536) (qk (by decide) hx1) (qX (qk (by decide) hx2)) hd0).1:qJ (qm neg n d).num.natAbs 137438953536) (I ((qT (p:=137438953536) (qk (by decide) hx1) (qX (qk (by decide) hx2)) hd0).2:le2 (qm neg n d).den 137438953536) ((Eq.refl (qm neg n d)))))))) (λ(h17: ¬((limbs d).getD 0 0=1))=>I ((jU hn0 hd0).symm:neg=decide ((qm neg n d).num<0)) (I (by rw[jF hd0,<-hg]<;>first|rfl|(rw[hg1,q7d]<;>rfl):n=(qm neg n d).num.natAbs) (I (zq (by rw[(jp hd0).2,<-hg]<;>first|rfl|(rw[hg1,q7d]<;>rfl)) (by omega):limbs d=denL (qm neg n d).den) (I ((qT (p:=137438953536) (qk (by decide) hx1) (qX (qk (by decide) hx2)) hd0).1:qJ (qm neg n d).num.natAbs 137438953536) (I ((qT (p:=137438953536) (qk (by decide) hx1) (qX (qk (by decide) hx2)) hd0).2:le2 (qm neg n d).den 137438953536) ((Eq.refl (qm neg n d)))))))))) (λ(h18: ¬((limbs d).length=1))=>I ((jU hn0 hd0).symm:neg=decide ((qm neg n d).num<0)) (I (by rw[jF hd0,<-hg]<;>first|rfl|(rw[hg1,q7d]<;>rfl):n=(qm neg n d).num.natAbs) (I (zq (by rw[(jp hd0).2,<-hg]<;>first|rfl|(rw[hg1,q7d]<;>rfl)) (by omega):limbs d=denL (qm neg n d).den) (I ((qT (p:=137438953536) (qk (by decide) hx1) (qX (qk (by decide) hx2)) hd0).1:qJ (qm neg n d).num.natAbs 137438953536) (I ((qT (p:=137438953536) (qk (by decide) hx1) (qX (qk (by decide) hx2)) hd0).2:le2 (qm neg n d).den 137438953536) ((Eq.refl (qm neg n d)))))))))))) (Nat.gcd n d) rfl))⟩)
abbrev CP:Ctr Tryz.prog:=FI.c Qj
abbrev q3K:FI:=⟨21,[(.int .i64)],[(.n 4611686018427387904)],λ_=>[],λb z=>(λ(v:Int)=> .c (.agg [.dt .rat (.n (Nat.log2 (b0 b).nb+1)) ((v:Rat))])) z⟩
theorem q3L:q3K.OK Tryz.prog:=qB hmix 13 Tryz.func21 rfl rfl (by decide) [(44,.c My)] (λ(v:Int) b hx hp=>jL (Au (Bnds.h1 hx).int)) (λ(v:Int) hx hp=>by
 have hx0:Int.natAbs v<=4611686018427387904:=hx
 refine⟨.h 2 2 (.rat (v:Rat) 64) (.nil),kcast (by kernel_rfl) (I (by rw[BO]:decide (v<0)=decide ((v:Rat).num<0)) (I (by rw[BO]:v.natAbs=(v:Rat).num.natAbs) (I (F2 v:(v:Rat).den=1) (I (by rw[BO];exact q7l hx0 (by decide):qJ (v:Rat).num.natAbs 64) (I (by rw[F2];exact Nat.one_le_two_pow:le2 (v:Rat).den 64) ((Eq.refl (v:Rat))))))))⟩)
abbrev wB:Ctr Tryz.prog:=FI.c q3L
abbrev XU:FI:=⟨45,[(.int .i64),(.int .i64)],[(.n 4611686018427387904),(.n 4611686018427387904)],λ_=>[],λb z=>(λ(u:Int)(v:Int)=> .tup [.agg [.dt .rat (.n (max (Nat.log2 (b0 b).nb+1) (Nat.log2 (b1 b).nb+1))) ((u:Rat)/(v:Rat))],.one (.dt (.int .i64) (.n 3) (mkC' v))]) z.1 z.2⟩
theorem XW:XU.OK Tryz.prog:=qB hmix 29 Tryz.func45 rfl rfl (by decide) [(40,.c CP),(44,.c My)] (λ(u:Int)(v:Int) b hx hp=>qc (jL (zZ (Bnds.h2 hx).1.int (Bnds.h2 hx).2.int)) (qc (qa (Tp v) rfl) qy)) (λ(u:Int)(v:Int) hx hp=>by
 have hx0:Int.natAbs u<=4611686018427387904:=hx.1;have hx1:Int.natAbs v<=4611686018427387904:=hx.2
 refine⟨.nil,kcast (by kernel_rfl) (Sp (v=0) (λh1=>q6q (by rw[show v=0 by assumption];simp[Rat.div_def]:0=((u:Int):Rat)/((v:Int):Rat)) ((if_pos (by assumption)).symm:3=mkC' v)) (λh2=>I (?_:0<v.natAbs) (q6q (I2 u v:qm (decide ((decide (u<0))≠(decide (v<0)))) u.natAbs v.natAbs=((u:Int):Rat)/((v:Int):Rat)) ((if_neg (by assumption)).symm:0=mkC' v))))⟩<;>omega)
abbrev Mx:Ctr Tryz.prog:=FI.c XW
abbrev XS:FI:=⟨23,[(.int .i64),(.int .i64)],[(.n 4611686018427387904),(.n 4611686018427387904)],λ_=>[],λb z=>(λ(u:Int)(v:Int)=> .c (.agg [.dt .rat (.n (max (Nat.log2 (b0 b).nb+1) (Nat.log2 (b1 b).nb+1))) ((u:Rat)/(v:Rat))])) z.1 z.2⟩
theorem XT:XS.OK Tryz.prog:=qB hmix 14 Tryz.func23 rfl rfl (by decide) [(45,.c Mx)] (λ(u:Int)(v:Int) b hx hp=>jL (zZ (Bnds.h2 hx).1.int (Bnds.h2 hx).2.int)) (λ(u:Int)(v:Int) hx hp=>by
 refine⟨.nil,kcast (by kernel_rfl) ((Eq.refl (((u:Int):Rat)/((v:Int):Rat))))⟩)
abbrev Iw:Ctr Tryz.prog:=FI.c XT
abbrev Y0:FI:=⟨36,[.rat,.rat],[(.n 68719476736),(.n 68719476736)],λ_=>[],λb z=>(λ(x:Rat)(y:Rat)=> .c (.one (.dt .bool .u (decide (x=y))))) z.1 z.2⟩
theorem Y1:Y0.OK Tryz.prog:=qB hmix 26 Tryz.func36 rfl rfl (by decide) [(42,.c EJ)] (λ(x:Rat)(y:Rat) b hx hp=>qa trivial rfl) (λ(x:Rat)(y:Rat) hx hp=>by
 have hx0:Bnd .rat (.n 68719476736) x:=hx.1;have hx1:Bnd .rat (.n 68719476736) y:=hx.2
 refine⟨.cond (.cond (.h 1 15 (.mag (dm x.den) 68719476737) (.h 1 17 (.mag (dm y.den) 68719476737) (.nil))) (.nil)) (.nil),kcast (by kernel_rfl) (Sp ((decide (x.num<0))=(decide (y.num<0))) (λh1=>Sp (qZ x.num.natAbs y.num.natAbs=0) (λh2=>I (HQ _:denL x.den=limbs (dm x.den)) (I (Oi hx0.2:qJ (dm x.den) 68719476737) (I (HQ _:denL y.den=limbs (dm y.den)) (I (Oi hx1.2:qJ (dm y.den) 68719476737) ((q3T (by assumption) (by assumption):decide (qZ (dm x.den) (dm y.den)=0)=decide (x=y))))))) (λh3=>(ysame (by first|exact .inl (by assumption)|exact .inr (.inl (by assumption))):false=decide (x=y)))) (λh4=>(ysame (by first|exact .inl (by assumption)|exact .inr (.inl (by assumption))):false=decide (x=y))))⟩)
abbrev Fw:Ctr Tryz.prog:=FI.c Y1
abbrev q3P:FI:=⟨113,[.rat],[(.n 68719476736)],λ_=>[],λb z=>(λ(x:Rat)=> .c (.agg [.dt .rat (.n ((b0 b).nb)) (-x)])) z⟩
theorem q3Q:q3P.OK Tryz.prog:=qB hmix 14 Tryz.func113 rfl rfl (by decide) [] (λ(x:Rat) b hx hp=>jL (D7 (Bnds.h1 hx))) (λ(x:Rat) hx hp=>by
 refine⟨.cond (.h 2 0 (.rat (-x) 68719476736) (.nil)) (.h 2 0 (.rat (-x) 68719476736) (.nil)),kcast (by kernel_rfl) (Sp (¬(x.num<0)) (λh1=>I (?_:decide (0<(limbs x.num.natAbs).length)=decide ((-x).num<0)) (I ((I4 x).symm:x.num.natAbs=(-x).num.natAbs) (I (by rw[Rat.neg_den]:denL x.den=denL (-x).den) (I ((D7 hx).1:qJ (-x).num.natAbs 68719476736) (I ((D7 hx).2:le2 (-x).den 68719476736) ((Eq.refl (-x)))))))) (λh2=>I (?_:false=decide ((-x).num<0)) (I ((I4 x).symm:x.num.natAbs=(-x).num.natAbs) (I (by rw[Rat.neg_den]:denL x.den=denL (-x).den) (I ((D7 hx).1:qJ (-x).num.natAbs 68719476736) (I ((D7 hx).2:le2 (-x).den 68719476736) ((Eq.refl (-x)))))))))⟩<;>first|(first|exact q1o (by assumption)|exact q1p (by omega)))
abbrev q3O:Ctr Tryz.prog:=FI.c q3Q
abbrev q3E:FI:=⟨20,[.rat,.rat],[(.n 68719476736),(.n 68719476736)],λ_=>[],λb z=>(λ(x:Rat)(y:Rat)=> .c (.agg [.dt .rat (.n ((b0 b).nb+(b1 b).nb+1)) (x+y)])) z.1 z.2⟩
theorem q3F:q3E.OK Tryz.prog:=qB hmix 75 Tryz.func20 rfl rfl (by decide) [(38,.c EK),(39,.c Dl),(40,.c CP),(41,.c q3q),(42,.c EJ),(43,.c q3B)] (λ(x:Rat)(y:Rat) b hx hp=>jL (FK (Bnds.h2 hx).1 (Bnds.h2 hx).2)) (λ(x:Rat)(y:Rat) hx hp=>by
 refine⟨.nil,kcast (by kernel_rfl) (Sp ((limbs x.num.natAbs).length=0) (λh1=>(by rw[wP (x:=x) (nl0.1 (by assumption)),Rat.zero_add]:y=x+y)) (λh2=>Sp ((limbs y.num.natAbs).length=0) (λh3=>(by rw[wP (x:=y) (nl0.1 (by assumption)),Rat.add_zero]:x=x+y)) (λh4=>have hqx:=q7z x.den_nz;have hqy:=q7z y.den_nz;have hqp:=q7y hqx hqy;Sp ((decide (x.num<0))=(decide (y.num<0))) (λh5=>I (hqp:0<x.den*y.den) ((by rw[show x+y=x+yQ (decide (y.num<0)) y by rw[Dj]];first|(have hs:decide (x.num<0)=decide (y.num<0):=(by assumption);rw[hs];exact BZ hs)|exact BX (by assumption) (Nat.le_of_not_lt (mt vw.2 (by assumption)))|exact BY (by assumption) (by have h:=vw.1 (show qZ (x.num.natAbs*y.den) (y.num.natAbs*x.den)<0 by assumption);omega):qm (decide (x.num<0)) ((x.num.natAbs*y.den)+(y.num.natAbs*x.den)) (x.den*y.den)=x+y))) (λh6=>Sp (qZ (x.num.natAbs*y.den) (y.num.natAbs*x.den)<0) (λh7=>I (hqp:0<x.den*y.den) ((by rw[show x+y=x+yQ (decide (y.num<0)) y by rw[Dj]];first|(have hs:decide (x.num<0)=decide (y.num<0):=(by assumption);rw[hs];exact BZ hs)|exact BX (by assumption) (Nat.le_of_not_lt (mt vw.2 (by assumption)))|exact BY (by assumption) (by have h:=vw.1 (show qZ (x.num.natAbs*y.den) (y.num.natAbs*x.den)<0 by assumption);omega):qm (decide (y.num<0)) ((y.num.natAbs*x.den) -(x.num.natAbs*y.den)) (x.den*y.den)=x+y))) (λh8=>I (hqp:0<x.den*y.den) ((by rw[show x+y=x+yQ (decide (y.num<0)) y by rw[Dj]];first|(have hs:decide (x.num<0)=decide (y.num<0):=(by assumption);rw[hs];exact BZ hs)|exact BX (by assumption) (Nat.le_of_not_lt (mt vw.2 (by assumption)))|exact BY (by assumption) (by have h:=vw.1 (show qZ (x.num.natAbs*y.den) (y.num.natAbs*x.den)<0 by assumption);omega):qm (decide (x.num<0)) ((x.num.natAbs*y.den) -(y.num.natAbs*x.den)) (x.den*y.den)=x+y)))))))⟩)
abbrev Dk:Ctr Tryz.prog:=FI.c q3F
abbrev q3U:FI:=⟨59,[.rat,.rat],[(.n 68719476736),(.n 68719476736)],λ_=>[],λb z=>(λ(x:Rat)(y:Rat)=> .c (.agg [.dt .rat (.n ((b0 b).nb+(b1 b).nb+1)) (x-y)])) z.1 z.2⟩
theorem q3V:q3U.OK Tryz.prog:=qB hmix 9 Tryz.func59 rfl rfl (by decide) [(20,.c Dk),(113,.c q3O)] (λ(x:Rat)(y:Rat) b hx hp=>jL (Cg (Bnds.h2 hx).1 (Bnds.h2 hx).2)) (λ(x:Rat)(y:Rat) hx hp=>by
 refine⟨.nil,kcast (by kernel_rfl) ((by rw[Rat.sub_eq_add_neg]:x+(-y)=x-y))⟩)
abbrev Qk:Ctr Tryz.prog:=FI.c q3V
abbrev q3M:FI:=⟨22,[.rat,.rat],[(.n 68719476736),(.n 68719476736)],λ_=>[],λb z=>(λ(x:Rat)(y:Rat)=> .c (.agg [.dt .rat (.n ((b0 b).nb+(b1 b).nb)) (x*y)])) z.1 z.2⟩
theorem q3N:q3M.OK Tryz.prog:=qB hmix 21 Tryz.func22 rfl rfl (by decide) [(38,.c EK),(39,.c Dl),(40,.c CP)] (λ(x:Rat)(y:Rat) b hx hp=>jL (CT (Bnds.h2 hx).1 (Bnds.h2 hx).2)) (λ(x:Rat)(y:Rat) hx hp=>by
 have hqp:=q7y (q7z x.den_nz) (q7z y.den_nz)
 refine⟨.nil,kcast (by kernel_rfl) (have hqx:=q7z x.den_nz;have hqy:=q7z y.den_nz;have hqp:=q7y hqx hqy;I (hqp:0<x.den*y.den) ((Fj x y:qm (decide ((decide (x.num<0))≠(decide (y.num<0)))) (x.num.natAbs*y.num.natAbs) (x.den*y.den)=x*y)))⟩)
abbrev EL:Ctr Tryz.prog:=FI.c q3N
abbrev q3R:FI:=⟨200,[.rat,.rat],[(.n 68719476736),(.n 68719476736)],λ_=>[],λb z=>(λ(x:Rat)(y:Rat)=> .tup [.agg [.dt .rat (.n ((b0 b).nb+(b1 b).nb)) (x/y)],.one (.dt (.int .i64) (.n 3) (quoC y))]) z.1 z.2⟩
theorem q3S:q3R.OK Tryz.prog:=qB hmix 27 Tryz.func200 rfl rfl (by decide) [(38,.c EK),(39,.c Dl),(40,.c CP)] (λ(x:Rat)(y:Rat) b hx hp=>qc (jL (BR (Bnds.h2 hx).1 (Bnds.h2 hx).2)) (qc (qa (Pt y) rfl) qy)) (λ(x:Rat)(y:Rat) hx hp=>by
 refine⟨.nil,kcast (by kernel_rfl) (Sp ((limbs y.num.natAbs).length=0) (λh1=>q6q (Tx (nl0.1 (by assumption)):0=x/y) ((if_pos (nl0.1 (by assumption))).symm:3=quoC y)) (λh2=>have hy0:=(mt nl0.2 (by assumption): ¬y.num.natAbs=0);I (q7y (q7z x.den_nz) (q7z hy0):0<x.den*y.num.natAbs) (q6q (Es hy0:qm (decide ((decide (x.num<0))≠(decide (y.num<0)))) (x.num.natAbs*y.den) (x.den*y.num.natAbs)=x/y) ((if_neg hy0).symm:0=quoC y))))⟩)
abbrev Qh:Ctr Tryz.prog:=FI.c q3S
abbrev XY:FI:=⟨170,[.rat,.rat],[(.n 68719476736),(.n 68719476736)],λ_=>[],λb z=>(λ(x:Rat)(y:Rat)=> .c (.agg [.dt .rat (.n ((b0 b).nb+(b1 b).nb)) (x/y)])) z.1 z.2⟩
theorem XZ:XY.OK Tryz.prog:=qB hmix 14 Tryz.func170 rfl rfl (by decide) [(200,.c Qh)] (λ(x:Rat)(y:Rat) b hx hp=>jL (BR (Bnds.h2 hx).1 (Bnds.h2 hx).2)) (λ(x:Rat)(y:Rat) hx hp=>by
 refine⟨.nil,kcast (by kernel_rfl) ((Eq.refl (x/y)))⟩)
abbrev XX:Ctr Tryz.prog:=FI.c XZ
abbrev q3G:FI:=⟨165,[.rat,.rat],[(.n 68719476736),(.n 68719476736)],λ_=>[],λb z=>(λ(x:Rat)(y:Rat)=> .c (.one (.dt (.int .i64) (.n 1) (j5 x y)))) z.1 z.2⟩
theorem q3H:q3G.OK Tryz.prog:=qB hmix 34 Tryz.func165 rfl rfl (by decide) [(16,.c Fx),(38,.c EK),(39,.c Dl),(42,.c EJ)] (λ(x:Rat)(y:Rat) b hx hp=>qa (K4 x y) rfl) (λ(x:Rat)(y:Rat) hx hp=>by
 refine⟨.nil,kcast (by kernel_rfl) (Sp (jb x≠jb y) (λh1=>Sp (jb x<jb y) (λh2=>(?_:(-1)=j5 x y)) (λh3=>(?_:1=j5 x y))) (λh4=>have hs:=(show jb x=jb y by omega);Sp (x.num<0) (λh5=>(?_: -(qZ (x.num.natAbs*y.den) (y.num.natAbs*x.den))=j5 x y)) (λh6=>(?_:qZ (x.num.natAbs*y.den) (y.num.natAbs*x.den)=j5 x y))))⟩<;>first|(first|exact((ER (by assumption)).1 (by assumption)).symm|exact((ER (by assumption)).2 (by assumption)).symm|exact(LM hs (by assumption)).symm|exact(LN hs (by assumption)).symm))
abbrev Qg:Ctr Tryz.prog:=FI.c q3H
abbrev Sn:FI:=⟨17,[(.pr .rat (.pr .rat .rat)),(.pr .rat (.pr .rat .rat))],[(.p (.n 4294967296) (.p (.n 4294967296) (.n 4294967296))),(.p (.n 4294967296) (.p (.n 4294967296) (.n 4294967296)))],λ_=>[],λb z=>(λ(p:Rat×Rat×Rat)(q:Rat×Rat×Rat)=> .c (.one (.dt .bool .u (decide (p=q))))) z.1 z.2⟩
theorem So:Sn.OK Tryz.prog:=qB hmix 24 Tryz.func17 rfl rfl (by decide) [(36,.c Fw)] (λ(p:Rat×Rat×Rat)(q:Rat×Rat×Rat) b hx hp=>qa trivial rfl) (λ(p:Rat×Rat×Rat)(q:Rat×Rat×Rat) hx hp=>by
 refine⟨.nil,kcast (by kernel_rfl) (Sp (decide (p.1=q.1)=true) (λh1=>Sp (decide (p.2.1=q.2.1)=true) (λh2=>(by rw[decide_eq_decide,q3o];exact⟨λh=>⟨(yd h1),(yd h2),h⟩,λh=>h.2.2⟩:decide (p.2.2=q.2.2)=decide (p=q))) (λh3=>(TK (.inr (.inl (yd' h3))):false=decide (p=q)))) (λh4=>(TK (.inl (yd' h4)):false=decide (p=q))))⟩)
abbrev L1:Ctr Tryz.prog:=FI.c So
abbrev Ot:FI:=⟨128,[(.pr .rat (.pr .rat .rat)),(.pr .rat (.pr .rat .rat)),(.fn 51)],[(.p (.n 4294967296) (.p (.n 4294967296) (.n 4294967296))),(.p (.n 4294967296) (.p (.n 4294967296) (.n 4294967296))),.u],λ_=>[],λb z=>(λ(p:Rat×Rat×Rat)(q:Rat×Rat×Rat)(u:Unit)=> .c (.agg [.dt jj (bV3 ((b0 b).mx+(b1 b).mx+1)) (addV p q)])) z.1 z.2.1 z.2.2⟩
theorem Ou:Ot.OK Tryz.prog:=qB hmix 24 Tryz.func128 rfl rfl (by decide) [(51,.c qA)] (λ(p:Rat×Rat×Rat)(q:Rat×Rat×Rat)(u:Unit) b hx hp=>HE (NN (Bnds.h3 hx).1 (Bnds.h3 hx).2.1)) (λ(p:Rat×Rat×Rat)(q:Rat×Rat×Rat)(u:Unit) hx hp=>by
 refine⟨.nil,kcast (by kernel_rfl) ((rfl:(p.1+q.1,p.2.1+q.2.1,p.2.2+q.2.2)=addV p q))⟩)
abbrev Or:Ctr Tryz.prog:=FI.c Ou
abbrev Xw:FI:=⟨68,[(.pr .rat (.pr .rat .rat)),(.pr .rat (.pr .rat .rat))],[(.p (.n 4294967296) (.p (.n 4294967296) (.n 4294967296))),(.p (.n 4294967296) (.p (.n 4294967296) (.n 4294967296)))],λ_=>[],λb z=>(λ(p:Rat×Rat×Rat)(q:Rat×Rat×Rat)=> .c (.agg [.dt jj (bV3 ((b0 b).mx+(b1 b).mx+1)) (addV p q)])) z.1 z.2⟩
theorem Xx:Xw.OK Tryz.prog:=qB hmix 8 Tryz.func68 rfl rfl (by decide) [(128,.c Or)] (λ(p:Rat×Rat×Rat)(q:Rat×Rat×Rat) b hx hp=>HE (NN (Bnds.h2 hx).1 (Bnds.h2 hx).2)) (λ(p:Rat×Rat×Rat)(q:Rat×Rat×Rat) hx hp=>by
 refine⟨.nil,kcast (by kernel_rfl) ((Eq.refl (addV p q)))⟩)
abbrev BV:Ctr Tryz.prog:=FI.c Xx
abbrev Q1:FI:=⟨169,[.rat,(.pr .rat (.pr .rat .rat))],[(.n 4294967296),(.p (.n 4294967296) (.p (.n 4294967296) (.n 4294967296)))],λ_=>[],λb z=>(λ(r:Rat)(q:Rat×Rat×Rat)=> .c (.agg [.dt jj (bV3 ((b0 b).mx+(b1 b).mx)) (Bv r q)])) z.1 z.2⟩
theorem Q2:Q1.OK Tryz.prog:=qB hmix 18 Tryz.func169 rfl rfl (by decide) [(22,.c EL)] (λ(r:Rat)(q:Rat×Rat×Rat) b hx hp=>HE (S9 (Bnds.h2 hx).1 (Bnds.h2 hx).2)) (λ(r:Rat)(q:Rat×Rat×Rat) hx hp=>by
 refine⟨.nil,kcast (by kernel_rfl) ((rfl:(r*q.1,r*q.2.1,r*q.2.2)=Bv r q))⟩)
abbrev J2:Ctr Tryz.prog:=FI.c Q2
abbrev Xz:FI:=⟨132,[(.pr .rat (.pr .rat .rat)),(.pr .rat (.pr .rat .rat))],[(.p (.n 4294967296) (.p (.n 4294967296) (.n 4294967296))),(.p (.n 4294967296) (.p (.n 4294967296) (.n 4294967296)))],λ_=>[],λb z=>(λ(p:Rat×Rat×Rat)(q:Rat×Rat×Rat)=> .c (.agg [.dt .rat (.n (3*((b0 b).mx+(b1 b).mx)+2)) (dotQ p q)])) z.1 z.2⟩
theorem XA:Xz.OK Tryz.prog:=qB hmix 21 Tryz.func132 rfl rfl (by decide) [(51,.c qA),(52,.c j8)] (λ(p:Rat×Rat×Rat)(q:Rat×Rat×Rat) b hx hp=>qh (q0H (Bnds.h2 hx).1 (Bnds.h2 hx).2)) (λ(p:Rat×Rat×Rat)(q:Rat×Rat×Rat) hx hp=>by
 refine⟨.nil,kcast (by kernel_rfl) ((by rw[Rat.zero_add];rfl:((0+(p.1*q.1))+(p.2.1*q.2.1))+(p.2.2*q.2.2)=dotQ p q))⟩)
abbrev Xy:Ctr Tryz.prog:=FI.c XA
abbrev q1P:FI:=⟨35,[.rat],[(.n 1099511627776)],λ_=>[],λb z=>(λ(x:Rat)=> .c (.agg [.dt .rat (b0 b) x])) z⟩
theorem q1Q:q1P.OK Tryz.prog:=qB hmix 12 Tryz.func35 rfl rfl (by decide) [(71,.c Ds)] (λ(x:Rat) b hx hp=>qh (Bnds.h1 hx)) (λ(x:Rat) hx hp=>by
 have hx0:Bnd .rat (.n 1099511627776) x:=hx
 refine⟨.h 1 7 (.c C3) (.h 1 8 (.rat x 1099511627776) (.nil)),kcast (by kernel_rfl) (I (Eq.refl (decide (x.num<0))) (I (Eq.refl x.num.natAbs) (I (Eq.refl (denL x.den)) (I (hx0.1:qJ x.num.natAbs 1099511627776) (I (hx0.2:le2 x.den 1099511627776) ((Eq.refl x)))))))⟩)
abbrev Pp:Ctr Tryz.prog:=FI.c q1Q
abbrev RD:FI:=⟨106,[(.pr .rat (.pr .rat .rat))],[(.p (.n 1099511627776) (.p (.n 1099511627776) (.n 1099511627776)))],λ_=>[],λb z=>(λ(x:Rat×Rat×Rat)=> .c (.agg [.dt jj (b0 b) x])) z⟩
theorem RE:RD.OK Tryz.prog:=qB hmix 13 Tryz.func106 rfl rfl (by decide) [(35,.c Pp)] (λ(x:Rat×Rat×Rat) b hx hp=>qh (Bnds.h1 hx)) (λ(x:Rat×Rat×Rat) hx hp=>by
 refine⟨.nil,kcast (by kernel_rfl) ((rfl:(x.1,x.2.1,x.2.2)=x))⟩)
abbrev RC:Ctr Tryz.prog:=FI.c RE
abbrev Om:FB:=⟨72,(.pr (.sl (.int .i64)) (.nat .i64)),(.p (.s 1048576 (.n 9223372036854775808)) (.n 1048576)),[],[],λs z=>[],λtb b s z=> .c (.agg [.dt .rat (.n (5)) (numV s)]),λs z=>numS s,λtb b=> .p tb.l (.n (max tb.r.nb tb.l.len))⟩
theorem Oo:Om.OK Tryz.prog:=mkB' hmix 18 Tryz.func72 rfl rfl (by decide) [(8,.b D4),(21,.c wB),(23,.c Iw)] (λ_=>rfl) (λ_ _=>rfl) (λ_ _ _ _=>rfl) (λ(s:List Int×Nat)  tb b hs hx hp=>⟨qh (H9 s),Pf hs⟩) (λ(s:List Int×Nat)  hs hx hp=>by
 refine⟨.nil,kcast (by kernel_rfl) (I (?_:(0:Int)<13) (I (?_:(0:Int)<4) (Sp (qd (qb s) 4=3) (λh1=>I (?_:(0:Int)<4) (q6q ((if_pos h1).symm:qb (qb (qb s))=numS s) (((if_pos h1).symm:(((qd s 13) -6:Int):Rat)/((1+(qd (qb (qb s)) 4):Int):Rat)=numV s)))) (λh2=>q6q ((if_neg h2).symm:qb (qb s)=numS s) (((if_neg h2).symm:(((qd s 13) -6:Int):Rat)=numV s))))))⟩<;>omega)
abbrev Ol:CtrB Tryz.prog:=FB.c Oo
abbrev QD:FB:=⟨37,(.pr (.sl (.int .i64)) (.nat .i64)),(.p (.s 1048576 (.n 9223372036854775808)) (.n 1048576)),[],[],λs z=>[],λtb b s z=> .c (.agg [.dt jj (bV3 (5)) (Af s)]),λs z=>zn s,λtb b=> .p tb.l (.n (max tb.r.nb tb.l.len))⟩
theorem QE:QD.OK Tryz.prog:=mkB' hmix 10 Tryz.func37 rfl rfl (by decide) [(72,.b Ol)] (λ_=>rfl) (λ_ _=>rfl) (λ_ _ _ _=>rfl) (λ(s:List Int×Nat)  tb b hs hx hp=>⟨HE (KK s),KJ hs⟩) (λ(s:List Int×Nat)  hs hx hp=>by
 refine⟨.nil,kcast (by kernel_rfl) (q6q (rfl:numS (numS (numS s))=zn s) ((rfl:(numV s,numV (numS s),numV (numS (numS s)))=Af s)))⟩)
abbrev QC:CtrB Tryz.prog:=FB.c QE
abbrev q0B:FI:=⟨14,[(.int .i64),(.int .i64),(.int .i64)],[(.n 1099511627776),(.n 1099511627776),(.n 1099511627776)],λ_=>[],λb z=>(λ(x:Int)(y:Int)(z:Int)=> .c (.agg [.dt jj (bV3 (max (Nat.log2 (b0 b).nb+1) (max (Nat.log2 (b1 b).nb+1) (Nat.log2 (b2 b).nb+1)))) ((x:Rat),(y:Rat),(z:Rat))])) z.1 z.2.1 z.2.2⟩
theorem q0C:q0B.OK Tryz.prog:=qB hmix 14 Tryz.func14 rfl rfl (by decide) [(21,.c wB)] (λ(x:Int)(y:Int)(z:Int) b hx hp=>HE ⟨qE (Au (Bnds.h3 hx).1.int) (by omega),qE (Au (Bnds.h3 hx).2.1.int) (by omega),qE (Au (Bnds.h3 hx).2.2.int) (by omega)⟩) (λ(x:Int)(y:Int)(z:Int) hx hp=>by
 refine⟨.nil,kcast (by kernel_rfl) ((rfl:((x:Rat),(y:Rat),(z:Rat))=(((x:Int):Rat),((y:Int):Rat),((z:Int):Rat))))⟩)
abbrev q0A:Ctr Tryz.prog:=FI.c q0C
theorem Cpy.step'{α:Type}{l out:List α}{i:Nat}(h:Cpy l out i)(d:α)(hi:i<l.length){v:α}(hv:v=l.getD i d):Cpy l (out.set i v) (i+1):=by
 subst hv;exact h.step d hi
theorem Cpy.start'{α:Type}{l:List α}{n:Nat}(d:α)(hn:n=l.length):Cpy l (List.replicate n d) 0:=by subst hn;exact Cpy.start d
theorem Bnd.slm{b:Bd}{l:List Rat}(h:Bnd (.sl .rat) b l):l.length<=b.len/\ ∀v∈l,Bnd .rat (.n b.mx) v:=by
 have h1:=h.sl;refine⟨h1.1,λv hv=>Ag (h1.2 v hv) ?_⟩
 cases b with
 |s n e=>exact Bd.nb_mx e
 |_=>simp[Bd.e,Bd.nb]
theorem qY(n:Nat):Bnd .rat (.n n) (0:Rat):=⟨by show(0:Nat)<_;exact q7C (by omega),by show 1<=_;exact Nat.one_le_two_pow⟩
theorem w7{l:List Rat}{m:Nat}(h: ∀v∈l,Bnd .rat (.n m) v)(i:Nat):Bnd .rat (.n m) (l.getD i 0):=by
 rw[q6E]
 cases hq:l[i]? with
 |none=>exact qY m
 |some u=>exact h u (q6Y hq)
theorem Jc{x y:Rat}{a b:Nat}(hx:Bnd .rat (.n a) x)(hy:Bnd .rat (.n b) y):Bnd .rat (.n (a+b)) (x/y):=BR hx hy
def c2(i:Nat):Rat:=[1,2,1].getD i 0
def c4(i:Nat):Rat:=[1,4,6,4,1].getD i 0
abbrev NO:FI:=⟨221,[(.sl .rat)],[(.s 65536 (.n 1073741824))],λ_=>[],λb z=>(λ(l:List Rat)=> .c (.one (.dt (.sl .rat) (b0 b) l))) z⟩
theorem NP:NO.OK Tryz.prog:=qB hmix 24 Tryz.func221 rfl rfl (by decide) [(51,.c qA)] (λ(l:List Rat) b hx hp=>qa (Bnds.h1 hx) rfl) (λ(l:List Rat) hx hp=>by
 have hl0:l.length<=65536:=hx.1
 refine⟨.h 1 2 (.mk (.arr .rat (.n 1073741825))) (.loop [.s 11 (.nat .i64) (.n 65536),.a 8 .rat (.n 1073741825)] (λ((i,out):Nat×List Rat)=>Cpy l out i) (λ((i,out):Nat×List Rat)=>l.length-i) (λ((i,out):Nat×List Rat)=> .cond (.nil) (.pre 999999 (.frz 8 true [2]) (.nil)))),kcast (by kernel_rfl) (I (?_:l.length=l.length) (I (Cpy.start' _ rfl:Cpy l (List.replicate l.length (0:Rat)) 0) (λ(i:Nat)(out:List Rat)(hb1:HB [.s 11 (.nat .i64) (.n 65536),.a 8 .rat (.n 1073741825)] (i,out))(hI:Cpy l out i)=>have hv4:=(show i<=65536 from hb1.1);have hIl:=hI.hl;have hIi:=hI.hi;Sp (i<l.length) (λh2=>I (?_:i<l.length) (I (?_:i<l.length) (I (?_:i<out.length) (I (show(i+1)<=65536 by omega:Bnd (.nat .i64) (.n 65536) (i+1)) (q6q (hI.step' 0 (by omega) (Rat.add_zero _):Cpy l (out.set i ((l.getD i 0)+0)) (i+1)) (?_:l.length-(i+1)<l.length-i)))))) (λh3=>I (?_:l.length=out.length) ((hI.fin (by omega):out=l))))))⟩<;>omega)
abbrev zM:Ctr Tryz.prog:=FI.c NP
abbrev q41:FI:=⟨217,[(.sl .rat),(.int .i64)],[(.s 65536 (.n 1073741824)),(.n 1099511627776)],λz=>(λ(l:List Rat)(m:Int)=>[(l.length:Int)=m+1]) z.1 z.2,λb z=>(λ(l:List Rat)(m:Int)=> .c (.one (.dt (.sl .rat) (b0 b) l))) z.1 z.2⟩
theorem q42:q41.OK Tryz.prog:=qB hmix 81 Tryz.func217 rfl rfl (by decide) [(221,.c zM)] (λ(l:List Rat)(m:Int) b hx hp=>qa (Bnds.h2 hx).1 rfl) (λ(l:List Rat)(m:Int) hx hp=>by
 have hl0:l.length<=65536:=hx.1.1;have hx1:Int.natAbs m<=1099511627776:=hx.2;have hp0:(l.length:Int)=m+1:=hp _ (q6W)
 refine⟨.cond (.cond (.dead) (.nil)) (.nil),kcast (by kernel_rfl) (Sp (0<l.length) (λh1=>Sp (((l.length:Nat):Int)<=m) (λh2=>(?_:False)) (λh3=>(Eq.refl l))) (λh4=>(Eq.refl l)))⟩<;>omega)
abbrev zP:Ctr Tryz.prog:=FI.c q42
abbrev ju:Type:=V3×Rat
abbrev qr:Ty:= .pr jj .rat
abbrev Four:Type:=Rat×Rat×Rat×Rat
abbrev Nt:Ty:= .pr .rat (.pr .rat (.pr .rat .rat))
abbrev MF(m:Nat):Bd:= .p (.n m) (.p (.n m) (.p (.n m) (.n m)))
abbrev ze:Type:=Int×List Rat×List ju
abbrev AU:Ty:= .pr (.int .i64) (.pr (.sl .rat) (.sl qr))
def zg(p:ju):Four:=(p.2*p.1.1,p.2*p.1.2.1,p.2*p.1.2.2,p.2)
theorem Bnd.pole{b:Bd}{x:ju}(h:Bnd qr b x):(Bnd .rat (.n b.mx) x.1.1/\Bnd .rat (.n b.mx) x.1.2.1/\Bnd .rat (.n b.mx) x.1.2.2)/\Bnd .rat (.n b.mx) x.2:=by
 have h1:=h.pr;have h2:=h1.1.v3;have:=b.l_mx;have:=b.r_mx
 exact⟨⟨qE h2.1 (by omega),qE h2.2.1 (by omega),qE h2.2.2 (by omega)⟩,Ag h1.2 (q7k (Bd.nb_mx _) (by omega))⟩
theorem LV{b:Bd}{p:ju}(h:Bnd qr b p):Bnd Nt (MF (2*b.mx)) (zg p):=by
 have h:=h.pole;exact⟨qE (vH h.2 h.1.1) (by omega),qE (vH h.2 h.1.2.1) (by omega),qE (vH h.2 h.1.2.2) (by omega),qE h.2 (by omega)⟩
theorem Bnd.slm'{t:Ty}{b:Bd}{l:List t.den}(h:Bnd (.sl t) b l): ∀v∈l,Bnd t b.e v:=h.sl.2
theorem Bd.e_mx(b:Bd):b.e.mx<=b.mx:=by cases b<;>simp[Bd.e,Bd.mx]
abbrev q5Y:FI:=⟨127,[(.pr (.pr .rat (.pr .rat .rat)) .rat)],[(.p (.p (.n 16777216) (.p (.n 16777216) (.n 16777216))) (.n 16777216))],λ_=>[],λb z=>(λ(p:(Rat×Rat×Rat)×Rat)=> .c (.agg [.dt Nt (MF (2*(b0 b).mx)) (zg p)])) z⟩
theorem q5Z:q5Y.OK Tryz.prog:=qB hmix 25 Tryz.func127 rfl rfl (by decide) [(51,.c qA),(52,.c j8)] (λ(p:(Rat×Rat×Rat)×Rat) b hx hp=>qh (LV (Bnds.h1 hx))) (λ(p:(Rat×Rat×Rat)×Rat) hx hp=>by
 refine⟨.nil,kcast (by kernel_rfl) ((by rw[Rat.add_zero];rfl:(p.2*p.1.1,p.2*p.1.2.1,p.2*p.1.2.2,p.2+0)=zg p))⟩)
abbrev Hx:Ctr Tryz.prog:=FI.c q5Z
abbrev XJ:FI:=⟨172,[(.pr (.pr .rat (.pr .rat .rat)) .rat)],[(.p (.p (.n 16777216) (.p (.n 16777216) (.n 16777216))) (.n 16777216))],λ_=>[],λb z=>(λ(p:(Rat×Rat×Rat)×Rat)=> .c (.agg [.dt Nt (MF (2*(b0 b).mx)) (zg p)])) z⟩
theorem XK:XJ.OK Tryz.prog:=qB hmix 18 Tryz.func172 rfl rfl (by decide) [(169,.c J2)] (λ(p:(Rat×Rat×Rat)×Rat) b hx hp=>qh (LV (Bnds.h1 hx))) (λ(p:(Rat×Rat×Rat)×Rat) hx hp=>by
 refine⟨.nil,kcast (by kernel_rfl) ((rfl:((Bv p.2 p.1).1,((Bv p.2 p.1).2).1,((Bv p.2 p.1).2).2,p.2)=zg p))⟩)
abbrev XI:Ctr Tryz.prog:=FI.c XK
section
abbrev jK(m:Nat):Bd:= .p (bV3 m) (.n m)
section
variable {p d e:V3} {k:Int}
end
theorem Jv(m:Nat)(h:1<=m):Bnd .rat (.n m) ((1:Int):Rat):=qE (a:=1) ⟨by unfold qJ;decide,by unfold le2;decide⟩ h
theorem Nx{x:V3}{a c:Nat}(h:Bnd jj (bV3 a) x)(hm:a<=c):Bnd jj (bV3 c) x:=⟨qE h.1 hm,qE h.2.1 hm,qE h.2.2 hm⟩
end
theorem zJ{a b e:Int}(h:a-b=e)(hb:e.natAbs<=4611686018427387904):qK .sub .i64 a b e:=by
 show IntKind.wrap .i64 (a-b)=e;rw[h];exact Gm (by omega) (by omega)
theorem Qr{a b e:Int}(h:a+b=e)(hb:e.natAbs<=4611686018427387904):qK .add .i64 a b e:=by
 show IntKind.wrap .i64 (a+b)=e;rw[h];exact Gm (by omega) (by omega)
section
theorem Di(x:Rat):Nat.gcd x.num.natAbs x.den=1:=x.reduced
theorem Ms{d:Nat}(h:(denL d).length=1)(h1:(denL d).getD 0 0=1):False:=by
 rw[HQ]at h h1;have e:dm d=1:=zA h h1;unfold dm at e;split at e<;>omega
theorem Fu{x:Rat}(h:(limbs x.num.natAbs).length=0)(h2:x.num<0):False:=by
 have:=nl0.1 h;omega
theorem Gf{x:Rat}(h:(limbs x.num.natAbs).length=0)(h2:0<(denL x.den).length):False:=by
 have e:x=0:=Rat.num_eq_zero.1 (by have:=nl0.1 h;omega);subst e;exact absurd h2 (by decide)
theorem AG{g:Nat}(h:g=1):(limbs g).length=1/\(limbs g).getD 0 0=1:=by subst h;exact⟨by rw[Aw];rfl,by rw[Aw];rfl⟩
def ve(x:Rat):Nat:=max (bl x.num.natAbs) (bl x.den)
theorem FN{x:Rat}{m:Nat}(h:Bnd .rat (.n m) x):ve x<=m+1:=by
 have h:=h.rat;have h1:=Bz h.1;have h2:=Bz (A4 h.2);simp only[Bd.nb]at h1 h2;unfold ve;omega
def jG(k:List Rat):Nat->List Rat
 |0=>[]
 |n+1=>if n=0\/k.getD n 0≠k.getD (n-1) 0 then jG k n++[k.getD n 0]else jG k n
abbrev dst(k:List Rat):List Rat:=jG k k.length
theorem An(k:List Rat): ∀n,(jG k n).length<=n
 |0=>q7j 0
 |n+1=>by have:=An k n;rw[jG];split<;>(try simp only[q6M,q6N,q6Q])<;>omega
theorem Dx{k:List Rat}: ∀{n:Nat},n<=k.length-> ∀x∈jG k n,x∈k
 |0,_,x,h=>by cases h
 |n+1,hn,x,h=>by
  rw[jG]at h;split at h
  .rcases q6T.1 h with h|h
   .exact Dx (by omega) x h
   .simp only[q70]at h;subst h;rw[vq (by omega)];exact List.getElem_mem _
  .exact Dx (by omega) x h
theorem T4{k:List Rat}{b:Bd}(h:Bnd (.sl .rat) b k):Bnd (.sl .rat) (.s b.len (.n b.mx)) (dst k):=
 ⟨q7k (An k _) h.slm.1,λv hv=>h.slm.2 v (Dx (q7j _) v hv)⟩
theorem LR{k:List Rat}{n:Nat}(h:n=0\/ ¬k.getD n 0=k.getD (n-1) 0):jG k n++[k.getD n 0]=jG k (n+1):=by rw[jG,if_pos h]
theorem q0I{k:List Rat}{n:Nat}(h: ¬n=0)(h2:k.getD n 0=k.getD (n-1) 0):jG k n=jG k (n+1):=by rw[jG,if_neg (by rintro(e|e);exact h e;exact e h2)]
def je(k:List Rat)(t:Rat):Nat->Nat
 |0=>0
 |n+1=>if k.getD n 0=t then je k t n+1 else je k t n
theorem By(k:List Rat)(t:Rat): ∀n,je k t n<=n
 |0=>q7j 0
 |n+1=>by have:=By k t n;rw[je];split<;>omega
def vF(k:List Rat):Nat->Bool
 |0=>true
 |n+1=>vF k n&&(decide (n=0)||decide (¬j5 (k.getD n 0) (k.getD (n-1) 0)<0))
theorem Sf{k:List Rat}{n:Nat}(h:vF k n=true)(h2: ¬j5 (k.getD n 0) (k.getD (n-1) 0)<0):vF k (n+1)=true:=by rw[vF,h,decide_eq_true h2];simp
theorem Mq{k:List Rat}{n m:Nat}(hn:1<=n)(h2:j5 (k.getD n 0) (k.getD (n-1) 0)<0)(hm:n<m):vF k m=false:=by
 induction m with
 |zero=>omega
 |succ m ih=>
  rw[vF];by_cases e:n=m
  .subst e;rw[decide_eq_false (show¬n=0 by omega),decide_eq_false (show¬ ¬_ from λh=>h h2)];simp
  .rw[ih (by omega)];rfl
def vO(k:List Rat)(d:Int)(i:Nat):Prop:=
 ((i=0\/i+1=(dst k).length)/\((je k ((dst k).getD i 0) k.length:Nat):Int)≠d+1)\/d+1<((je k ((dst k).getD i 0) k.length:Nat):Int)\/(0<i/\i+1<(dst k).length/\d<((je k ((dst k).getD i 0) k.length:Nat):Int))
instance(k:List Rat)(d:Int)(i:Nat):Decidable (vO k d i):=by unfold vO;infer_instance
def okN(k:List Rat)(d:Int):Nat->Bool
 |0=>true
 |i+1=>okN k d i&&decide (¬vO k d i)
theorem zp{k:List Rat}{d:Int}{i:Nat}(h:okN k d i=true)(h2: ¬vO k d i):okN k d (i+1)=true:=by rw[okN,h,decide_eq_true h2];rfl
theorem wA{k:List Rat}{d:Int}{i m:Nat}(h2:vO k d i)(hm:i<m):okN k d m=false:=by
 induction m with
 |zero=>omega
 |succ m ih=>
  rw[okN];by_cases e:i=m
  .subst e;rw[decide_eq_false (show¬ ¬_ from λh=>h h2),Bool.and_false]
  .rw[ih (by omega)];rfl
def qM(k:List Rat)(d:Int):Int:=
 if d<1\/6<d then 1 else if(k.length:Int)<2*d+2 then 5 else if 40<(k.length:Int) -d-1 then 2 else
 if vF k k.length=false then 5 else if okN k d (dst k).length=false then 5 else if(dst k).length<2 then 5 else 0
theorem GE(k:List Rat)(d:Int):(qM k d).natAbs<=5:=by
 unfold qM
 repeat' split
 all_goals decide
section
variable {k:List Rat} {d:Int}
theorem Jb(h:d<1\/6<d):1=qM k d:=by rw[qM,if_pos h]
theorem SQ(h: ¬(d<1\/6<d))(h2:(k.length:Int)<2*d+2):5=qM k d:=by rw[qM,if_neg h,if_pos h2]
theorem SS(h: ¬(d<1\/6<d))(h2: ¬(k.length:Int)<2*d+2)(h3:40<(k.length:Int) -d-1):2=qM k d:=by rw[qM,if_neg h,if_neg h2,if_pos h3]
theorem ST(h: ¬(d<1\/6<d))(h2: ¬(k.length:Int)<2*d+2)(h3: ¬40<(k.length:Int) -d-1)(h4:vF k k.length=false):5=qM k d:=by rw[qM,if_neg h,if_neg h2,if_neg h3,if_pos h4]
theorem wZ(h: ¬(d<1\/6<d))(h2: ¬(k.length:Int)<2*d+2)(h3: ¬40<(k.length:Int) -d-1)(h4:vF k k.length=true)(h5:okN k d (dst k).length=false):5=qM k d:=by
 rw[qM,if_neg h,if_neg h2,if_neg h3,if_neg (by rw[h4];exact λe=>by cases e),if_pos h5]
theorem SU(h: ¬(d<1\/6<d))(h2: ¬(k.length:Int)<2*d+2)(h3: ¬40<(k.length:Int) -d-1)(h4:vF k k.length=true)(h5:okN k d (dst k).length=true)(h6:(dst k).length<2):5=qM k d:=by
 rw[qM,if_neg h,if_neg h2,if_neg h3,if_neg (by rw[h4];exact λe=>by cases e),if_neg (by rw[h5];exact λe=>by cases e),if_pos h6]
theorem SV(h: ¬(d<1\/6<d))(h2: ¬(k.length:Int)<2*d+2)(h3: ¬40<(k.length:Int) -d-1)(h4:vF k k.length=true)(h5:okN k d (dst k).length=true)(h6: ¬(dst k).length<2):0=qM k d:=by
 rw[qM,if_neg h,if_neg h2,if_neg h3,if_neg (by rw[h4];exact λe=>by cases e),if_neg (by rw[h5];exact λe=>by cases e),if_neg h6]
end
section
variable {c:ze}
end
def ivl(k:List Rat)(t:Rat):Nat->Nat
 |0=>0
 |n+1=>if j5 t (k.getD (n+1) 0)<0 then ivl k t n else n+1
theorem AO(k:List Rat)(t:Rat): ∀n,ivl k t n<=n
 |0=>q7j 0
 |n+1=>by have:=AO k t n;rw[ivl];split<;>omega
theorem QW{k:List Rat}{t:Rat}{n:Nat}(h0:0<n)(h:j5 t (k.getD n 0)<0):ivl k t (n-1)=ivl k t n:=by
 obtain⟨m,rfl⟩: ∃m,n=m+1:=⟨n-1,by omega⟩;rw[ivl,if_pos h];rfl
theorem QX{k:List Rat}{t:Rat}{n:Nat}(h:0<n-> ¬j5 t (k.getD n 0)<0):ivl k t n=n:=by
 cases n with
 |zero=>rfl
 |succ m=>rw[ivl,if_neg (h (by omega))]
def ivO(k:List Rat)(t:Rat):Prop:=j5 t (k.getD 0 0)<0\/0<j5 t (k.getD (k.length-1) 0)
instance(k:List Rat)(t:Rat):Decidable (ivO k t):=by unfold ivO;infer_instance
def jv(k:List Rat)(t:Rat):Int:=if ivO k t then 7 else 0
def qU(k:List Rat)(d:Int)(t:Rat):Nat:=if ivO k t then 0 else ivl k t (k.length-2-d.toNat)
theorem Km(k:List Rat)(d:Int)(t:Rat):qU k d t<=k.length:=by
 unfold qU;split
 .omega
 .have:=AO k t (k.length-2-d.toNat);omega
theorem Bg(k:List Rat)(t:Rat):(jv k t).natAbs<=7:=by unfold jv;split<;>decide
structure IvZ (k:List Rat) (d:Int) (t:Rat) (z:Nat):Prop where
 hi:z<=k.length-2-d.toNat
 he:ivl k t z=ivl k t (k.length-2-d.toNat)
theorem IvZ.start(k:List Rat)(d:Int)(t:Rat):IvZ k d t (k.length-2-d.toNat):=⟨q7j _,rfl⟩
theorem IvZ.step{k:List Rat}{d:Int}{t:Rat}{z:Nat}(h:IvZ k d t z)(h0:0<z)(h2:j5 t (k.getD z 0)<0):IvZ k d t (z-1):=⟨by have:=h.hi;omega,by rw[QW h0 h2,h.he]⟩
theorem IvZ.fin{k:List Rat}{d:Int}{t:Rat}{z:Nat}(h:IvZ k d t z)(hO: ¬ivO k t)(h2:0<z-> ¬j5 t (k.getD z 0)<0):z=qU k d t:=by
 rw[qU,if_neg hO,<-h.he,QX h2]
def bsp(k:List Rat)(t:Rat)(at_:Nat):Nat->Nat->Rat
 |0,i=>if i=at_ then((1:Int):Rat)else 0
 |d+1,i=>if at_<i\/i+(d+1)<at_ then 0 else
  (t-k.getD i 0)/(k.getD (i+(d+1)) 0-k.getD i 0)*bsp k t at_ d i+(k.getD (i+(d+1)+1) 0-t)/(k.getD (i+(d+1)+1) 0-k.getD (i+1) 0)*bsp k t at_ d (i+1)
theorem Ye{k:List Rat}{t:Rat}{a i:Nat}{d:Int}(hd:d=0)(h:i=a):((1:Int):Rat)=bsp k t a d.toNat i:=by subst hd;subst h;simp[bsp]
theorem Yd{k:List Rat}{t:Rat}{a i:Nat}{d:Int}(hd:d=0)(h: ¬i=a):0=bsp k t a d.toNat i:=by subst hd;simp[bsp,h]
theorem LF{k:List Rat}{t:Rat}{a i:Nat}{d:Int}(hd:0<d)(h:a<i\/i+d.toNat<a):0=bsp k t a d.toNat i:=by
 obtain⟨n,hn⟩: ∃n,d.toNat=n+1:=⟨d.toNat-1,by omega⟩;rw[hn]at h⊢;rw[bsp,if_pos h]
theorem Yf{k:List Rat}{t:Rat}{a i:Nat}{d:Int}(hd:0<d)(h: ¬(a<i\/i+d.toNat<a)):
  (t-k.getD i 0)/(k.getD (i+d.toNat) 0-k.getD i 0)*bsp k t a (d-1).toNat i+(k.getD (i+d.toNat+1) 0-t)/(k.getD (i+d.toNat+1) 0-k.getD (i+1) 0)*bsp k t a (d-1).toNat (i+1)=bsp k t a d.toNat i:=by
 obtain⟨n,hn⟩: ∃n,d.toNat=n+1:=⟨d.toNat-1,by omega⟩;rw[hn]at h⊢;rw[show(d-1).toNat=n by omega]
 conv=>rhs;rw[bsp,if_neg h]
def bspB(m:Nat):Nat->Nat
 |0=>2
 |d+1=>2*(4*m+2+bspB m d)+1
theorem IA(m:Nat){a c:Nat}(h:a<=c):bspB m a<=bspB m c:=by
 induction h with
 |refl=>exact q7j _
 |step h ih=>rw[bspB];omega
theorem Ja{k:List Rat}{t:Rat}{m:Nat}(hk: ∀v∈k,Bnd .rat (.n m) v)(ht:Bnd .rat (.n m) t)(a:Nat): ∀d i,Bnd .rat (.n (bspB m d)) (bsp k t a d i)
 |0,i=>by
  rw[bsp];split
  .exact Jv _ (show 1<=2 by decide)
  .exact qY _
 |d+1,i=>by
  rw[bsp];split
  .exact qY _
  .have g: ∀j,Bnd .rat (.n m) (k.getD j 0):=λj=>w7 hk j
   have h1:=vH (Jc (DT ht (g i)) (DT (g (i+(d+1))) (g i))) (Ja hk ht a d i);have h2:=vH (Jc (DT (g (i+(d+1)+1)) ht) (DT (g (i+(d+1)+1)) (g (i+1)))) (Ja hk ht a d (i+1));exact qE (AI h1 h2) (by rw[bspB];omega)
theorem NU{k:List Rat}{t:Rat}(hk: ∀v∈k,Bnd .rat (.n 4096) v)(ht:Bnd .rat (.n 4096) t)(a:Nat){d:Int}(hd:d<=6)(i:Nat):Bnd .rat (.n 4194304) (bsp k t a d.toNat i):=
 qE (Ja hk ht a d.toNat i) (q7k (IA 4096 (show d.toNat<=6 by omega)) (by decide))
def jc(k:List Rat)(d:Int)(t:Rat):List Rat:=if ivO k t then[]else(List.range (d.toNat+1)).map λj=>bsp k t (qU k d t) d.toNat (qU k d t-d.toNat+j)
end
abbrev SH:FI:=⟨109,[.rat],[(.n 68719476736)],λ_=>[],λb z=> .c (.one (.vl (.bool true)))⟩
theorem SI:SH.OK Tryz.prog:=qB hmix 57 Tryz.func109 rfl rfl (by decide) [(39,.c Dl),(74,.c Qc),(164,.c SE)] (λ(x:Rat) b hx hp=>AX rfl) (λ(x:Rat) hx hp=>by
 refine⟨.cond (.cond (.dead) (.cond (.cond (.dead) (.cond (.dead) ((λ(g:Nat)=> .cond (.nil) (.dead)) (Nat.gcd x.num.natAbs x.den)))) ((λ(g:Nat)=> .cond (.nil) (.dead)) (Nat.gcd x.num.natAbs x.den)))) (.cond (.cond (.dead) (.cond (.dead) ((λ(g:Nat)=> .cond (.nil) (.dead)) (Nat.gcd x.num.natAbs x.den)))) ((λ(g:Nat)=> .cond (.nil) (.dead)) (Nat.gcd x.num.natAbs x.den))),kcast (by kernel_rfl) (I (Aq _:(limbs x.num.natAbs).length=0\/(limbs x.num.natAbs).getD ((limbs x.num.natAbs).length-1) 0≠0) (I (ID x.den:(denL x.den).length=0\/(denL x.den).getD ((denL x.den).length-1) 0≠0) (q6q (λ(h1:(denL x.den).length=1)=>I (by omega:0<(denL x.den).length) (q6q (λ(h2:(denL x.den).getD 0 0=1)=>(Ms h1 h2:False)) (λ(h3: ¬((denL x.den).getD 0 0=1))=>q6q (λ(h4:(limbs x.num.natAbs).length=0)=>q6q (λ(h5:x.num<0)=>(Fu h4 h5:False)) (λ(h6: ¬(x.num<0))=>q6q (λ(h7:0<(denL x.den).length)=>(Gf h4 h7:False)) (λ(h8: ¬(0<(denL x.den).length))=>(λ(g:Nat)(hg:g=Nat.gcd x.num.natAbs x.den)=>have hg1:=(show g=1 from hg.trans (Di x));q6q (λ(h9:(limbs g).length=1)=>I (by omega:0<(limbs g).length) (((AG hg1).2:(limbs g).getD 0 0=1))) (λ(h10: ¬((limbs g).length=1))=>(h10 (AG hg1).1:False))) (Nat.gcd x.num.natAbs x.den) rfl))) (λ(h11: ¬((limbs x.num.natAbs).length=0))=>(λ(g:Nat)(hg:g=Nat.gcd x.num.natAbs x.den)=>have hg1:=(show g=1 from hg.trans (Di x));q6q (λ(h12:(limbs g).length=1)=>I (by omega:0<(limbs g).length) (((AG hg1).2:(limbs g).getD 0 0=1))) (λ(h13: ¬((limbs g).length=1))=>(h13 (AG hg1).1:False))) (Nat.gcd x.num.natAbs x.den) rfl)))) (λ(h14: ¬((denL x.den).length=1))=>q6q (λ(h15:(limbs x.num.natAbs).length=0)=>q6q (λ(h16:x.num<0)=>(Fu h15 h16:False)) (λ(h17: ¬(x.num<0))=>q6q (λ(h18:0<(denL x.den).length)=>(Gf h15 h18:False)) (λ(h19: ¬(0<(denL x.den).length))=>(λ(g:Nat)(hg:g=Nat.gcd x.num.natAbs x.den)=>have hg1:=(show g=1 from hg.trans (Di x));q6q (λ(h20:(limbs g).length=1)=>I (by omega:0<(limbs g).length) (((AG hg1).2:(limbs g).getD 0 0=1))) (λ(h21: ¬((limbs g).length=1))=>(h21 (AG hg1).1:False))) (Nat.gcd x.num.natAbs x.den) rfl))) (λ(h22: ¬((limbs x.num.natAbs).length=0))=>(λ(g:Nat)(hg:g=Nat.gcd x.num.natAbs x.den)=>have hg1:=(show g=1 from hg.trans (Di x));q6q (λ(h23:(limbs g).length=1)=>I (by omega:0<(limbs g).length) (((AG hg1).2:(limbs g).getD 0 0=1))) (λ(h24: ¬((limbs g).length=1))=>(h24 (AG hg1).1:False))) (Nat.gcd x.num.natAbs x.den) rfl)))))⟩)
abbrev Gn:Ctr Tryz.prog:=FI.c SI
abbrev Qm:FI:=⟨107,[(.sl .rat)],[(.s 1048576 (.n 68719476736))],λ_=>[],λb z=> .c (.one (.vl (.bool true)))⟩
theorem Qn:Qm.OK Tryz.prog:=qB hmix 16 Tryz.func107 rfl rfl (by decide) [(109,.c Gn)] (λ(l:List Rat) b hx hp=>AX rfl) (λ(l:List Rat) hx hp=>by
 have hl0:l.length<=1048576:=hx.1
 refine⟨.loop [.s 3 (.nat .i64) (.n 1048576)] (λ(i:Nat)=>i<=l.length) (λ(i:Nat)=>l.length-i) (λ(i:Nat)=> .nil),kcast (by kernel_rfl) (I (q7G _:0<=l.length) (λ(i:Nat)(hb1:HB [.s 3 (.nat .i64) (.n 1048576)] i)(hI:i<=l.length)=>have hv4:=(show i<=1048576 from hb1);Sp (i<l.length) (λh2=>I (?_:i<l.length) (I (show(i+1)<=1048576 by omega:Bnd (.nat .i64) (.n 1048576) (i+1)) (q6q ((by omega):(i+1)<=l.length) (?_:l.length-(i+1)<l.length-i)))) (λh3=>trivial)))⟩<;>omega)
abbrev Ql:Ctr Tryz.prog:=FI.c Qn
abbrev Sr:FI:=⟨108,[(.pr .rat (.pr .rat .rat))],[(.p (.n 68719476736) (.p (.n 68719476736) (.n 68719476736)))],λ_=>[],λb z=> .c (.one (.vl (.bool true)))⟩
theorem Ss:Sr.OK Tryz.prog:=qB hmix 16 Tryz.func108 rfl rfl (by decide) [(109,.c Gn)] (λ(p:Rat×Rat×Rat) b hx hp=>AX rfl) (λ(p:Rat×Rat×Rat) hx hp=>by
 refine⟨.nil,kcast (by kernel_rfl) (trivial)⟩)
abbrev Sq:Ctr Tryz.prog:=FI.c Ss
abbrev Ra:FI:=⟨111,[(.sl .rat),(.int .i64)],[(.s 1048576 (.n 68719476736)),(.n 1099511627776)],λ_=>[],λb z=>(λ(k:List Rat)(d:Int)=> .c (.one (.dt (.int .i64) (.n ((b0 b).len+(b1 b).nb+1)) ((k.length:Int) -d-1)))) z.1 z.2⟩
theorem Rb:Ra.OK Tryz.prog:=qB hmix 10 Tryz.func111 rfl rfl (by decide) [] (λ(k:List Rat)(d:Int) b hx hp=>qa (show Int.natAbs ((k.length:Int) -d-1)<=(b0 b).len+(b1 b).nb+1 from by have h1:=(Bnds.h2 hx).1.slm.1;have h2:=(Bnds.h2 hx).2.int;omega) rfl) (λ(k:List Rat)(d:Int) hx hp=>by
 have hl0:k.length<=1048576:=hx.1.1;have hx1:Int.natAbs d<=1099511627776:=hx.2
 refine⟨.nil,kcast (by kernel_rfl) ((?_:(((k.length:Nat):Int) -d) -1=((k.length:Nat):Int) -d-1))⟩<;>omega)
abbrev Kr:Ctr Tryz.prog:=FI.c Rb
abbrev q18:FI:=⟨58,[(.sl .rat)],[(.s 1048576 (.n 68719476736))],λ_=>[],λb z=>(λ(k:List Rat)=> .c (.one (.dt (.sl .rat) (.s ((b0 b).len) (.n ((b0 b).mx))) (dst k)))) z⟩
theorem q19:q18.OK Tryz.prog:=qB hmix 34 Tryz.func58 rfl rfl (by decide) [(36,.c Fw)] (λ(k:List Rat) b hx hp=>qa (T4 (Bnds.h1 hx)) rfl) (λ(k:List Rat) hx hp=>by
 have hl0:k.length<=1048576:=hx.1
 refine⟨.loop [.s 4 (.nat .i64) (.n 1048576),.g 3 90003 .rat (.n 68719476736) 1048576] (λ((i,out):Nat×List Rat)=>out=jG k i/\i<=k.length) (λ((i,out):Nat×List Rat)=>k.length-i) (λ((i,out):Nat×List Rat)=> .cond (.cond (.h 6 5 (.mk (.im .rat (.n 68719476736))) (.nil)) (.h 5 9 (.i .sub) (.cond (.h 6 5 (.mk (.im .rat (.n 68719476736))) (.nil)) (.nil)))) (.pre 999999 (.frz 90003 true [2]) (.nil))),kcast (by kernel_rfl) (I (rfl:0=([]:List Rat).length) (I (⟨rfl,q7G _⟩:([]:List Rat)=jG k 0/\0<=k.length) (λ(i:Nat)(out:List Rat)(hb1:HB [.s 4 (.nat .i64) (.n 1048576),.g 3 90003 .rat (.n 68719476736) 1048576] (i,out))(hI:out=jG k i/\i<=k.length)=>have hv8:=(show i<=1048576 from hb1.1);have hv9:=(show out.length<=1048576 from hb1.2.1);have hIo:=hI.1;have hIi:=hI.2;have hIl:=(show out.length<=i from hI.1▸An k i);Sp (i<k.length) (λh2=>Sp (i=0) (λh3=>I (?_:i<k.length) (I (?_:out.length=out.length) (I (show(i+1)<=1048576 by omega:Bnd (.nat .i64) (.n 1048576) (i+1)) (I (by(try simp only[q6M,q6N,q6Q])<;>omega:out.length+[k.getD i 0].length=(out++[k.getD i 0]).length) (I (by(try simp only[q6M,q6N,q6Q])<;>omega:out.length+[k.getD i 0].length<=1048576) (q6q (⟨by rw[hIo];exact LR (.inl h3),by omega⟩:(out++[k.getD i 0])=jG k (i+1)/\(i+1)<=k.length) (?_:k.length-(i+1)<k.length-i))))))) (λh4=>I (?_:i<k.length) (I (?_:1<=i) (I (?_:i-1<k.length) (Sp ((!(decide ((k.getD i 0)=(k.getD (i-1) 0))))=true) (λh5=>I (?_:i<k.length) (I (?_:out.length=out.length) (I (show(i+1)<=1048576 by omega:Bnd (.nat .i64) (.n 1048576) (i+1)) (I (by(try simp only[q6M,q6N,q6Q])<;>omega:out.length+[k.getD i 0].length=(out++[k.getD i 0]).length) (I (by(try simp only[q6M,q6N,q6Q])<;>omega:out.length+[k.getD i 0].length<=1048576) (q6q (⟨by rw[hIo];exact LR (.inr (nd h5)),by omega⟩:(out++[k.getD i 0])=jG k (i+1)/\(i+1)<=k.length) (?_:k.length-(i+1)<k.length-i))))))) (λh6=>I (show(i+1)<=1048576 by omega:Bnd (.nat .i64) (.n 1048576) (i+1)) (I (?_:out.length=out.length) (q6q (⟨by rw[hIo];exact q0I h4 (nd' h6),by omega⟩:out=jG k (i+1)/\(i+1)<=k.length) (?_:k.length-(i+1)<k.length-i))))))))) (λh7=>I (?_:out.length=out.length) ((hIo.trans (by rw[show i=k.length by omega]):out=dst k))))))⟩<;>omega)
abbrev OY:Ctr Tryz.prog:=FI.c q19
abbrev Rh:FI:=⟨166,[(.sl .rat),.rat],[(.s 1048576 (.n 68719476736)),(.n 68719476736)],λ_=>[],λb z=>(λ(k:List Rat)(t:Rat)=> .c (.one (.dt (.nat .i64) (.n (b0 b).len) (je k t k.length)))) z.1 z.2⟩
theorem Ri:Rh.OK Tryz.prog:=qB hmix 22 Tryz.func166 rfl rfl (by decide) [(36,.c Fw)] (λ(k:List Rat)(t:Rat) b hx hp=>qa (show je k t k.length<=(b0 b).len from q7k (By k t _) (Bnds.h2 hx).1.slm.1) rfl) (λ(k:List Rat)(t:Rat) hx hp=>by
 have hl0:k.length<=1048576:=hx.1.1
 refine⟨.loop [.s 6 (.nat .i64) (.n 1048576),.s 5 (.nat .i64) (.n 1048576)] (λ((i,m):Nat×Nat)=>m=je k t i/\i<=k.length) (λ((i,m):Nat×Nat)=>k.length-i) (λ((i,m):Nat×Nat)=> .nil),kcast (by kernel_rfl) (I (⟨rfl,q7G _⟩:0=je k t 0/\0<=k.length) (λ(i:Nat)(m:Nat)(hb1:HB [.s 6 (.nat .i64) (.n 1048576),.s 5 (.nat .i64) (.n 1048576)] (i,m))(hI:m=je k t i/\i<=k.length)=>have hv6:=(show i<=1048576 from hb1.1);have hv7:=(show m<=1048576 from hb1.2);have hIi:=hI.2;have hIl:=(show m<=i from hI.1▸By k t i);Sp (i<k.length) (λh2=>I (?_:i<k.length) (Sp (decide ((k.getD i 0)=t)=true) (λh3=>I (show(i+1)<=1048576 by omega:Bnd (.nat .i64) (.n 1048576) (i+1)) (I (show(m+1)<=1048576 by omega:Bnd (.nat .i64) (.n 1048576) (m+1)) (q6q (⟨by rw[je,if_pos (yd h3),hI.1],by omega⟩:(m+1)=je k t (i+1)/\(i+1)<=k.length) (?_:k.length-(i+1)<k.length-i)))) (λh4=>I (show(i+1)<=1048576 by omega:Bnd (.nat .i64) (.n 1048576) (i+1)) (q6q (⟨by rw[je,if_neg (yd' h4),hI.1],by omega⟩:m=je k t (i+1)/\(i+1)<=k.length) (?_:k.length-(i+1)<k.length-i))))) (λh5=>(by rw[hI.1,show i=k.length by omega]:m=je k t k.length))))⟩<;>omega)
abbrev Rg:Ctr Tryz.prog:=FI.c Ri
abbrev R7:FI:=⟨110,[(.sl .rat),(.int .i64)],[(.s 1048576 (.n 68719476736)),(.n 1099511627776)],λ_=>[],λb z=>(λ(k:List Rat)(d:Int)=> .c (.one (.dt (.int .i64) (.n 5) (qM k d)))) z.1 z.2⟩
theorem R8:R7.OK Tryz.prog:=qB hmix 96 Tryz.func110 rfl rfl (by decide) [(58,.c OY),(111,.c Kr),(165,.c Qg),(166,.c Rg)] (λ(k:List Rat)(d:Int) b hx hp=>qa (GE k d) rfl) (λ(k:List Rat)(d:Int) hx hp=>by
 have hl0:k.length<=1048576:=hx.1.1;have hx1:Int.natAbs d<=1099511627776:=hx.2
 refine⟨.cond (.nil) (.cond (.nil) (.cond (.nil) (.cond (.nil) (.loop [.s 5 (.nat .i64) (.n 1048576)] (λ(i:Nat)=>vF k i=true/\1<=i/\i<=k.length) (λ(i:Nat)=>k.length-i) (λ(i:Nat)=> .cond (.h 10 6 (.i .sub) (.nil)) (.loop [.s 7 (.nat .i64) (.n 1048576)] (λ(i2:Nat)=>okN k d i2=true/\i2<=(dst k).length) (λ(i2:Nat)=>(dst k).length-i2) (λ(i2:Nat)=> .cond (.cond (.cond (.nil) (.cond (.nil) (.cond (.h 17 28 (.i .sub) (.nil)) (.nil)))) (.h 17 6 (.i .sub) (.cond (.cond (.nil) (.cond (.nil) (.cond (.h 17 28 (.i .sub) (.nil)) (.nil)))) (.cond (.nil) (.cond (.h 17 28 (.i .sub) (.nil)) (.nil)))))) (.nil)))))))),kcast (by kernel_rfl) (Sp (d<1) (λh1=>(Jb (by omega):1=qM k d)) (λh2=>Sp (6<d) (λh3=>(Jb (by omega):1=qM k d)) (λh4=>Sp (((k.length:Nat):Int)<(2*d)+2) (λh5=>(SQ (by omega) h5:5=qM k d)) (λh6=>Sp (40<((k.length:Nat):Int) -d-1) (λh7=>(SS (by omega) (by omega) (by omega):2=qM k d)) (λh8=>I (⟨rfl,q7j 1,by omega⟩:vF k 1=true/\1<=1/\1<=k.length) (λ(i:Nat)(hb9:HB [.s 5 (.nat .i64) (.n 1048576)] i)(hI:vF k i=true/\1<=i/\i<=k.length)=>have hv52:=(show i<=1048576 from hb9);have hI1:=hI.2.1;have hI2:=hI.2.2;Sp (i<k.length) (λh10=>I (?_:i<k.length) (I (?_:1<=i) (I (?_:i-1<k.length) (Sp (j5 (k.getD i 0) (k.getD (i-1) 0)<0) (λh11=>(ST (by omega) (by omega) (by omega) (Mq hI1 h11 (by omega)):5=qM k d)) (λh12=>I (show(i+1)<=1048576 by omega:Bnd (.nat .i64) (.n 1048576) (i+1)) (q6q (⟨Sf hI.1 h12,by omega,by omega⟩:vF k (i+1)=true/\1<=(i+1)/\(i+1)<=k.length) (?_:k.length-(i+1)<k.length-i))))))) (λh13=>I (⟨rfl,q7G _⟩:okN k d 0=true/\0<=(dst k).length) (λ(i2:Nat)(hb14:HB [.s 7 (.nat .i64) (.n 1048576)] i2)(hJ:okN k d i2=true/\i2<=(dst k).length)=>have hv51:=(show i2<=1048576 from hb14);have hJ1:=hJ.2;have hdl:=(show(dst k).length<=k.length from An k k.length);Sp (i2<(dst k).length) (λh15=>I (?_:i2<(dst k).length) (Sp (i2=0) (λh16=>Sp (((je k ((dst k).getD i2 0) k.length:Nat):Int)≠d+1) (λh17=>(wZ (by omega) (by omega) (by omega) (by rw[show k.length=i by omega];exact hI.1) (wA (i:=i2) (by unfold vO;omega) (by omega)):5=qM k d)) (λh18=>Sp (d+1<((je k ((dst k).getD i2 0) k.length:Nat):Int)) (λh19=>(wZ (by omega) (by omega) (by omega) (by rw[show k.length=i by omega];exact hI.1) (wA (i:=i2) (by unfold vO;omega) (by omega)):5=qM k d)) (λh20=>Sp (0<i2) (λh21=>I (?_:1<=(dst k).length) (Sp (i2<((dst k).length) -1) (λh22=>Sp (d<((je k ((dst k).getD i2 0) k.length:Nat):Int)) (λh23=>(wZ (by omega) (by omega) (by omega) (by rw[show k.length=i by omega];exact hI.1) (wA (i:=i2) (by unfold vO;omega) (by omega)):5=qM k d)) (λh24=>I (show(i2+1)<=1048576 by omega:Bnd (.nat .i64) (.n 1048576) (i2+1)) (q6q (⟨zp hJ.1 (by unfold vO;omega),by omega⟩:okN k d (i2+1)=true/\(i2+1)<=(dst k).length) (?_:(dst k).length-(i2+1)<(dst k).length-i2)))) (λh25=>I (show(i2+1)<=1048576 by omega:Bnd (.nat .i64) (.n 1048576) (i2+1)) (q6q (⟨zp hJ.1 (by unfold vO;omega),by omega⟩:okN k d (i2+1)=true/\(i2+1)<=(dst k).length) (?_:(dst k).length-(i2+1)<(dst k).length-i2))))) (λh26=>I (show(i2+1)<=1048576 by omega:Bnd (.nat .i64) (.n 1048576) (i2+1)) (q6q (⟨zp hJ.1 (by unfold vO;omega),by omega⟩:okN k d (i2+1)=true/\(i2+1)<=(dst k).length) (?_:(dst k).length-(i2+1)<(dst k).length-i2)))))) (λh27=>I (?_:1<=(dst k).length) (Sp (i2=((dst k).length) -1) (λh28=>Sp (((je k ((dst k).getD i2 0) k.length:Nat):Int)≠d+1) (λh29=>(wZ (by omega) (by omega) (by omega) (by rw[show k.length=i by omega];exact hI.1) (wA (i:=i2) (by unfold vO;omega) (by omega)):5=qM k d)) (λh30=>Sp (d+1<((je k ((dst k).getD i2 0) k.length:Nat):Int)) (λh31=>(wZ (by omega) (by omega) (by omega) (by rw[show k.length=i by omega];exact hI.1) (wA (i:=i2) (by unfold vO;omega) (by omega)):5=qM k d)) (λh32=>Sp (0<i2) (λh33=>I (?_:1<=(dst k).length) (Sp (i2<((dst k).length) -1) (λh34=>Sp (d<((je k ((dst k).getD i2 0) k.length:Nat):Int)) (λh35=>(wZ (by omega) (by omega) (by omega) (by rw[show k.length=i by omega];exact hI.1) (wA (i:=i2) (by unfold vO;omega) (by omega)):5=qM k d)) (λh36=>I (show(i2+1)<=1048576 by omega:Bnd (.nat .i64) (.n 1048576) (i2+1)) (q6q (⟨zp hJ.1 (by unfold vO;omega),by omega⟩:okN k d (i2+1)=true/\(i2+1)<=(dst k).length) (?_:(dst k).length-(i2+1)<(dst k).length-i2)))) (λh37=>I (show(i2+1)<=1048576 by omega:Bnd (.nat .i64) (.n 1048576) (i2+1)) (q6q (⟨zp hJ.1 (by unfold vO;omega),by omega⟩:okN k d (i2+1)=true/\(i2+1)<=(dst k).length) (?_:(dst k).length-(i2+1)<(dst k).length-i2))))) (λh38=>I (show(i2+1)<=1048576 by omega:Bnd (.nat .i64) (.n 1048576) (i2+1)) (q6q (⟨zp hJ.1 (by unfold vO;omega),by omega⟩:okN k d (i2+1)=true/\(i2+1)<=(dst k).length) (?_:(dst k).length-(i2+1)<(dst k).length-i2)))))) (λh39=>Sp (d+1<((je k ((dst k).getD i2 0) k.length:Nat):Int)) (λh40=>(wZ (by omega) (by omega) (by omega) (by rw[show k.length=i by omega];exact hI.1) (wA (i:=i2) (by unfold vO;omega) (by omega)):5=qM k d)) (λh41=>Sp (0<i2) (λh42=>I (?_:1<=(dst k).length) (Sp (i2<((dst k).length) -1) (λh43=>Sp (d<((je k ((dst k).getD i2 0) k.length:Nat):Int)) (λh44=>(wZ (by omega) (by omega) (by omega) (by rw[show k.length=i by omega];exact hI.1) (wA (i:=i2) (by unfold vO;omega) (by omega)):5=qM k d)) (λh45=>I (show(i2+1)<=1048576 by omega:Bnd (.nat .i64) (.n 1048576) (i2+1)) (q6q (⟨zp hJ.1 (by unfold vO;omega),by omega⟩:okN k d (i2+1)=true/\(i2+1)<=(dst k).length) (?_:(dst k).length-(i2+1)<(dst k).length-i2)))) (λh46=>I (show(i2+1)<=1048576 by omega:Bnd (.nat .i64) (.n 1048576) (i2+1)) (q6q (⟨zp hJ.1 (by unfold vO;omega),by omega⟩:okN k d (i2+1)=true/\(i2+1)<=(dst k).length) (?_:(dst k).length-(i2+1)<(dst k).length-i2))))) (λh47=>I (show(i2+1)<=1048576 by omega:Bnd (.nat .i64) (.n 1048576) (i2+1)) (q6q (⟨zp hJ.1 (by unfold vO;omega),by omega⟩:okN k d (i2+1)=true/\(i2+1)<=(dst k).length) (?_:(dst k).length-(i2+1)<(dst k).length-i2))))))))) (λh48=>Sp ((dst k).length<2) (λh49=>(SU (by omega) (by omega) (by omega) (by rw[show k.length=i by omega];exact hI.1) (by rw[show(dst k).length=i2 by omega];exact hJ.1) (by omega):5=qM k d)) (λh50=>(SV (by omega) (by omega) (by omega) (by rw[show k.length=i by omega];exact hI.1) (by rw[show(dst k).length=i2 by omega];exact hJ.1) (by omega):0=qM k d)))))))))))⟩<;>omega)
abbrev R6:Ctr Tryz.prog:=FI.c R8
abbrev XQ:FI:=⟨167,[.rat],[(.n 68719476736)],λ_=>[],λb z=>(λ(x:Rat)=> .c (.one (.dt (.int .i64) (.n (2*(b0 b).nb+1)) ((ve x:Nat):Int)))) z⟩
theorem XR:XQ.OK Tryz.prog:=qB hmix 10 Tryz.func167 rfl rfl (by decide) [(39,.c Dl),(135,.c Mv)] (λ(x:Rat) b hx hp=>qa (show Int.natAbs ((ve x:Nat):Int)<=2*(b0 b).nb+1 from by have:=FN (Ag (Bnds.h1 hx) (q7j _));omega) rfl) (λ(x:Rat) hx hp=>by
 refine⟨.nil,kcast (by kernel_rfl) ((by unfold ve;omega:max ((bl x.num.natAbs:Nat):Int) ((bl x.den:Nat):Int)=((ve x:Nat):Int)))⟩)
abbrev XP:Ctr Tryz.prog:=FI.c XR
abbrev Re:FI:=⟨112,[(.sl .rat)],[(.s 1048576 (.n 2047))],λ_=>[],λb z=> .c (.one (.vl (.bool true)))⟩
theorem Rf:Re.OK Tryz.prog:=qB hmix 16 Tryz.func112 rfl rfl (by decide) [(167,.c XP)] (λ(l:List Rat) b hx hp=>AX rfl) (λ(l:List Rat) hx hp=>by
 have hl0:l.length<=1048576:=hx.1;have he0: ∀u∈l,Bnd .rat (.n 2047) u:=hx.2
 refine⟨.loop [.s 3 (.nat .i64) (.n 1048576)] (λ(i:Nat)=>i<=l.length) (λ(i:Nat)=>l.length-i) (λ(i:Nat)=> .cond (.cond (.dead) (.nil)) (.nil)),kcast (by kernel_rfl) (I (q7G _:0<=l.length) (λ(i:Nat)(hb1:HB [.s 3 (.nat .i64) (.n 1048576)] i)(hI:i<=l.length)=>have hv6:=(show i<=1048576 from hb1);Sp (i<l.length) (λh2=>I (?_:i<l.length) (Sp (2048<((ve (l.getD i 0):Nat):Int)) (λh3=>(absurd h3 (by have:=FN (w7 he0 i);omega):False)) (λh4=>I (show(i+1)<=1048576 by omega:Bnd (.nat .i64) (.n 1048576) (i+1)) (q6q ((by omega):(i+1)<=l.length) (?_:l.length-(i+1)<l.length-i))))) (λh5=>trivial)))⟩<;>omega)
abbrev Rc:Ctr Tryz.prog:=FI.c Rf
abbrev F4:Type:=Rat×Rat×Rat×Rat
abbrev jB:Ty:= .pr .rat (.pr .rat (.pr .rat .rat))
abbrev bF4(m:Nat):Bd:= .p (.n m) (.p (.n m) (.p (.n m) (.n m)))
def v7(p:ju):F4:=(p.2*p.1.1,p.2*p.1.2.1,p.2*p.1.2.2,p.2)
def jw(h:F4):ju:=(Bv (((1:Int):Rat)/h.2.2.2) (h.1,h.2.1,h.2.2.1),h.2.2.2)
theorem Cr{x:F4}{a c:Nat}(h:Bnd jB (bF4 a) x)(hm:a<=c):Bnd jB (bF4 c) x:=⟨qE h.1 hm,qE h.2.1 hm,qE h.2.2.1 hm,qE h.2.2.2 hm⟩
theorem F8{p:ju}{b:Bd}(h:Bnd (.pr jj .rat) b p):Bnd jB (bF4 (2*b.mx)) (v7 p):=by
 have hw:Bnd .rat (.n b.mx) p.2:=Ag h.pr.2 (q7k (Bd.nb_mx _) b.r_mx);have hv:=h.pr.1.v3;have:=b.l_mx;exact⟨qE (vH hw hv.1) (by omega),qE (vH hw hv.2.1) (by omega),qE (vH hw hv.2.2) (by omega),qE hw (by omega)⟩
theorem ET{h:F4}{b:Bd}(hh:Bnd jB b h):Bnd (.pr jj .rat) (.p (bV3 (2*b.mx+2)) (.n (2*b.mx+2))) (jw h):=by
 have g1:=hh.pr.1;have g2:=hh.pr.2.pr.1;have g3:=hh.pr.2.pr.2.pr.1;have g4:=hh.pr.2.pr.2.pr.2;have w: ∀{c:Bd}{x:Rat},Bnd .rat c x->c.mx<=b.mx->Bnd .rat (.n b.mx) x:=λhx hm=>Ag hx (q7k (Bd.nb_mx _) hm)
 have m1:=b.l_mx;have m2:=b.r_mx;have m3:=b.r.l_mx;have m4:=b.r.r_mx;have m5:=b.r.r.l_mx;have m6:=b.r.r.r_mx
 have k1:=w g1 m1;have k2:=w g2 (by omega);have k3:=w g3 (by omega);have k4:=w g4 (by omega);have q:=Jc (Jv 1 (q7j 1)) k4;exact⟨⟨qE (vH q k1) (by omega),qE (vH q k2) (by omega),qE (vH q k3) (by omega)⟩,qE k4 (by omega)⟩
abbrev d0:ju:=((0,0,0),0)
def homS(o:F4)(x:Rat)(h:F4):F4:=(o.1+x*h.1,o.2.1+x*h.2.1,o.2.2.1+x*h.2.2.1,o.2.2.2+x*h.2.2.2)
def homN(ps:List ju)(l:List Rat)(f:Nat):Nat->F4
 |0=>(0,0,0,0)
 |n+1=>homS (homN ps l f n) (l.getD n 0) (v7 (ps.getD (f+n) d0))
theorem GR{ps:List ju}{l:List Rat}{m e:Nat}(hp: ∀p∈ps,Bnd (.pr jj .rat) (.p (bV3 m) (.n m)) p)(hl: ∀v∈l,Bnd .rat (.n e) v)(f:Nat): ∀n,Bnd jB (bF4 (n*(e+2*m+1))) (homN ps l f n)
 |0=>⟨qY _,qY _,qY _,qY _⟩
 |n+1=>by
  have h:=GR hp hl f n
  have hh:Bnd jB (bF4 (2*m)) (v7 (ps.getD (f+n) d0)):=by
   by_cases hi:f+n<ps.length
   .have:=F8 (hp _ (show ps.getD (f+n) d0∈ps by rw[vq hi];exact List.getElem_mem hi))
    exact Cr this (by simp only[Bd.mx];omega)
   .have:ps.getD (f+n) d0=d0:=by rw[q6E,q6J (by omega)];rfl
    rw[this];have z: ∀a,(0:Rat)*a=0:=λa=>Rat.zero_mul a
    unfold v7;simp only[z];exact⟨qY _,qY _,qY _,qY _⟩
  have hx:Bnd .rat (.n e) (l.getD n 0):=w7 hl n;have e1:(n+1)*(e+2*m+1)=n*(e+2*m+1)+(e+2*m)+1:=by rw[q79];omega
  rw[e1];have s: ∀{a c:Rat},Bnd .rat (.n (n*(e+2*m+1))) a->Bnd .rat (.n (2*m)) c->Bnd .rat (.n (n*(e+2*m+1)+(e+2*m)+1)) (a+l.getD n 0*c):=λha hc=>AI ha (vH hx hc)
  exact⟨s h.1 hh.1,s h.2.1 hh.2.1,s h.2.2.1 hh.2.2.1,s h.2.2.2 hh.2.2.2⟩
structure EvC (c:ze) (t:Rat):Prop where
 kb:Bnd (.sl .rat) (.s 64 (.n 4096)) c.2.1
 pb: ∀p∈c.2.2,Bnd (.pr jj .rat) (.p (bV3 262144) (.n 262144)) p
 tb:Bnd .rat (.n 4096) t
 d0:0<=c.1
 d6:c.1<=6
 kl:2*c.1.toNat+2<=c.2.1.length
 pl:c.2.2.length+c.1.toNat+1=c.2.1.length
 iv:ivO c.2.1 t\/c.1.toNat<=qU c.2.1 c.1 t
abbrev bvc(c:ze)(t:Rat):List Rat:=jc c.2.1 c.1 t
def homV(c:ze)(t:Rat):F4:=homN c.2.2 (bvc c t) (qU c.2.1 c.1 t-c.1.toNat) (bvc c t).length
def evV(c:ze)(t:Rat):V3:=if ivO c.2.1 t then(0,0,0)else(jw (homV c t)).1
theorem EP{k:List Rat}{d:Int}{t:Rat}(h: ¬ivO k t):(jc k d t).length=d.toNat+1:=by unfold jc;rw[if_neg h];simp
theorem E9(k:List Rat)(d:Int)(t:Rat):(jc k d t).length<=d.toNat+1:=by unfold jc;split<;>simp
theorem Gv{k:List Rat}{d:Int}{t:Rat}(hk: ∀v∈k,Bnd .rat (.n 4096) v)(ht:Bnd .rat (.n 4096) t)(hd:d<=6): ∀v∈jc k d t,Bnd .rat (.n 4194304) v:=by
 intro v hv;unfold jc at hv;split at hv
 .cases hv
 .obtain⟨j,_,rfl⟩:=List.mem_map.1 hv
  exact NU hk ht _ hd _
def bvN(k:List Rat)(d:Int)(t:Rat)(n:Nat):List Rat:=(List.range n).map λj=>bsp k t (qU k d t) d.toNat (qU k d t-d.toNat+j)
theorem Qs{k:List Rat}{d:Int}{t:Rat}{n i:Nat}(h:i=qU k d t-d.toNat+n):bvN k d t n++[bsp k t (qU k d t) d.toNat i]=bvN k d t (n+1):=by
 subst h;unfold bvN;rw[List.range_succ,List.map_append];rfl
theorem TX{k:List Rat}{d:Int}{t:Rat}(h: ¬ivO k t):bvN k d t (d.toNat+1)=jc k d t:=by unfold jc bvN;rw[if_neg h]
theorem TY(k:List Rat)(d:Int)(t:Rat)(n:Nat):(bvN k d t n).length=n:=by unfold bvN;simp
theorem OL{c:ze}{t:Rat}(h:EvC c t):Bnd jB (bF4 33554432) (homV c t):=by
 refine Cr (GR h.pb (Gv (λv hv=>h.kb.2 v hv) h.tb h.d6) _ _) ?_;have:=E9 c.2.1 c.1 t;have:=h.d6;have e:(bvc c t).length<=7:=by show(jc _ _ _).length<=7;omega
 have:=q7x (4194304+2*262144+1) e;omega
theorem Jd{c:ze}{t:Rat}(h:EvC c t):Bnd jj (bV3 67108868) (evV c t):=by
 unfold evV;split
 .exact⟨qY _,qY _,qY _⟩
 .have e:(bF4 33554432).mx=33554432:=by decide
  exact Nx (ET (OL h)).1 (by omega)
theorem Tf{k:List Rat}{d:Int}{t:Rat}(h:jv k t≠0):0=qU k d t-d.toNat:=by
 unfold jv at h;split at h
 .rename_i g;rw[qU,if_pos g];omega
 .exact absurd rfl h
theorem Tg{k:List Rat}{d:Int}{t:Rat}(h:jv k t≠0):[]=jc k d t:=by
 unfold jv at h;split at h
 .rename_i g;rw[jc,if_pos g]
 .exact absurd rfl h
theorem Ai{k:List Rat}{t:Rat}(h: ¬jv k t≠0): ¬ivO k t:=λg=>h (by rw[jv,if_pos g];decide)
theorem GW{k:List Rat}{t:Rat}(h: ¬ivO k t):0=jv k t:=by rw[jv,if_neg h]
theorem M0{k:List Rat}{d:Int}{t:Rat}:qU k d t<=k.length-2-d.toNat:=by
 unfold qU;split
 .omega
 .exact AO k t _
theorem Vp{c:ze}{t:Rat}(h:EvC c t){n f:Nat}(hn:n<=7):Bnd jB (bF4 33554432) (homN c.2.2 (bvc c t) f n):=by
 refine Cr (GR h.pb (Gv (λv hv=>h.kb.2 v hv) h.tb h.d6) _ _) ?_;have:=q7x (4194304+2*262144+1) hn;omega
theorem T7{c:ze}{t:Rat}(h:jv c.2.1 t≠0):(0,0,0)=evV c t:=by
 unfold jv at h;split at h
 .rename_i g;rw[evV,if_pos g]
 .exact absurd rfl h
theorem T8{c:ze}{t:Rat}(h: ¬jv c.2.1 t≠0):(jw (homV c t)).1=evV c t:=by rw[evV,if_neg (Ai h)]
abbrev VI:FI:=⟨116,[(.sl .rat),(.int .i64),.rat],[(.s 1048576 (.n 68719476736)),(.n 1099511627776),(.n 68719476736)],λz=>(λ(k:List Rat)(d:Int)(t:Rat)=>[0<=d,d.toNat+2<=k.length]) z.1 z.2.1 z.2.2,λb z=>(λ(k:List Rat)(d:Int)(t:Rat)=> .tup [.one (.dt (.nat .i64) (.n (b0 b).len) (qU k d t)),.one (.dt (.int .i64) (.n 7) (jv k t))]) z.1 z.2.1 z.2.2⟩
theorem VJ:VI.OK Tryz.prog:=qB hmix 46 Tryz.func116 rfl rfl (by decide) [(165,.c Qg)] (λ(k:List Rat)(d:Int)(t:Rat) b hx hp=>qc (qa (show qU k d t<=(b0 b).len from q7k (Km k d t) (Bnds.h3 hx).1.slm.1) rfl) (qc (qa (Bg k t) rfl) qy)) (λ(k:List Rat)(d:Int)(t:Rat) hx hp=>by
 have hl0:k.length<=1048576:=hx.1.1;have hx1:Int.natAbs d<=1099511627776:=hx.2.1;have hp0:0<=d:=hp _ (q6W);have hp1:d.toNat+2<=k.length:=hp _ (q6V _ (q6W))
 refine⟨.h 1 2 (.i .sub) (.cond (.nil) (.cond (.nil) (.h 4 3 (.i (.n (k.length-2-d.toNat) 1048576)) (.loop [.s 9 (.nat .i64) (.n 1048576)] (λ(z:Nat)=>IvZ k d t z) (λ(z:Nat)=>z) (λ(z:Nat)=> .cond (.cond (.h 6 1 (.i .sub) (.nil)) (.nil)) (.nil)))))),kcast (by kernel_rfl) (I (?_:1<=k.length) (I (?_:0<k.length) (Sp (j5 t (k.getD 0 0)<0) (λh1=>q6q ((if_pos (.inl h1)).symm:0=qU k d t) ((if_pos (.inl h1)).symm:7=jv k t)) (λh2=>I (?_:k.length-1<k.length) (Sp (0<j5 t (k.getD (k.length-1) 0)) (λh3=>q6q ((if_pos (.inr h3)).symm:0=qU k d t) ((if_pos (.inr h3)).symm:7=jv k t)) (λh4=>I (zJ (by omega) (by omega):qK .sub .i64 (((k.length-1:Nat):Int) -d) 1 ((k.length-2-d.toNat:Nat):Int)) (I (?_:k.length-2-d.toNat<=1048576) (I (IvZ.start k d t:IvZ k d t (k.length-2-d.toNat)) (λ(z:Nat)(hb5:HB [.s 9 (.nat .i64) (.n 1048576)] z)(hI:IvZ k d t z)=>have hv10:=(show z<=1048576 from hb5);have hIi:=hI.hi;Sp (0<z) (λh6=>I (?_:z<k.length) (Sp (j5 t (k.getD z 0)<0) (λh7=>I (?_:1<=z) (q6q (hI.step h6 h7:IvZ k d t (z-1)) (?_:(z-1)<z))) (λh8=>q6q (hI.fin (not_or.2 ⟨h2,h4⟩) (λ_=>h8):z=qU k d t) ((if_neg (not_or.2 ⟨h2,h4⟩)).symm:0=jv k t)))) (λh9=>q6q (hI.fin (not_or.2 ⟨h2,h4⟩) (λe=>absurd e h9):z=qU k d t) ((if_neg (not_or.2 ⟨h2,h4⟩)).symm:0=jv k t)))))))))))⟩<;>omega)
abbrev HX:Ctr Tryz.prog:=FI.c VJ
abbrev VL:FI:=⟨212,[.rat,.rat],[(.n 68719476736),(.n 68719476736)],λ_=>[],λb z=>(λ(x:Rat)(y:Rat)=> .c (.agg [.dt .rat (.n ((b0 b).nb+(b1 b).nb)) (x/y)])) z.1 z.2⟩
theorem VM:VL.OK Tryz.prog:=qB hmix 14 Tryz.func212 rfl rfl (by decide) [(200,.c Qh)] (λ(x:Rat)(y:Rat) b hx hp=>jL (BR (Bnds.h2 hx).1 (Bnds.h2 hx).2)) (λ(x:Rat)(y:Rat) hx hp=>by
 refine⟨.nil,kcast (by kernel_rfl) ((Eq.refl (x/y)))⟩)
abbrev VK:Ctr Tryz.prog:=FI.c VM
abbrev Kp(n:Nat):FI:=⟨201,[(.sl .rat),(.nat .i64),(.int .i64),(.nat .i64),.rat],[(.s 1048576 (.n 16384)),(.n 2097152),(.n 8),(.n 2097152),(.n 16384)],λz=>(λ(k:List Rat)(i:Nat)(d:Int)(at_:Nat)(t:Rat)=>[d.toNat<n,Bnd (.sl .rat) (.s 64 (.n 4096)) k,Bnd .rat (.n 4096) t,0<=d,d<=6,i+d.toNat+1<k.length]) z.1 z.2.1 z.2.2.1 z.2.2.2.1 z.2.2.2.2,λb z=>(λ(k:List Rat)(i:Nat)(d:Int)(at_:Nat)(t:Rat)=> .c (.agg [.dt .rat (.n (4194304)) (bsp k t at_ d.toNat i)])) z.1 z.2.1 z.2.2.1 z.2.2.2.1 z.2.2.2.2⟩
theorem q1b(n:Nat)(ih:(Kp n).OK Tryz.prog):(Kp (n+1)).OK Tryz.prog:=qB hmix 92 Tryz.func201 rfl rfl (by decide) [(20,.c Dk),(21,.c wB),(22,.c EL),(59,.c Qk),(201,.c (FI.c ih)),(212,.c VK)] (λ(k:List Rat)(i:Nat)(d:Int)(at_:Nat)(t:Rat) b hx hp=>jL (NU (λv hv=>(hp _ (q6V _ (q6W))).2 v hv) (hp _ (q6V _ (q6V _ (q6W)))) at_ (hp _ (q6V _ (q6V _ (q6V _ (q6V _ (q6W)))))) i)) (λ(k:List Rat)(i:Nat)(d:Int)(at_:Nat)(t:Rat) hx hp=>by
 have hl0:k.length<=1048576:=hx.1.1;have hx1:i<=2097152:=hx.2.1;have hx2:Int.natAbs d<=8:=hx.2.2.1;have hx3:at_<=2097152:=hx.2.2.2.1;have hp0:d.toNat<(n+1):=hp _ (q6W);have hp1:Bnd (.sl .rat) (.s 64 (.n 4096)) k:=hp _ (q6V _ (q6W));have hp2:Bnd .rat (.n 4096) t:=hp _ (q6V _ (q6V _ (q6W)));have hp3:0<=d:=hp _ (q6V _ (q6V _ (q6V _ (q6W))));have hp4:d<=6:=hp _ (q6V _ (q6V _ (q6V _ (q6V _ (q6W)))));have hp5:i+d.toNat+1<k.length:=hp _ (q6V _ (q6V _ (q6V _ (q6V _ (q6V _ (q6W))))))
 refine⟨.cond (.nil) (.cond (.nil) (.cond (.nil) (.h 7 10 (.ix (i+d.toNat)) (.h 8 5 (.ix (i+d.toNat+1)) (.h 8 14 (.ix (i+d.toNat+1)) (.h 9 4 (.i (.z (d-1) 8)) (.h 9 12 (.i (.n (i+1) 2097152)) (.h 9 14 (.i (.z (d-1) 8)) (.nil))))))))),kcast (by kernel_rfl) (Sp (d=0) (λh1=>Sp (i=at_) (λh2=>(Ye h1 h2:((1:Int):Rat)=bsp k t at_ d.toNat i)) (λh3=>(Yd h1 h3:0=bsp k t at_ d.toNat i))) (λh4=>Sp (at_<i) (λh5=>(LF (by omega) (by omega):0=bsp k t at_ d.toNat i)) (λh6=>Sp ((i:Int)+d<(at_:Int)) (λh7=>(LF (by omega) (by omega):0=bsp k t at_ d.toNat i)) (λh8=>I (?_:i<k.length) (I (?_:(i:Int)+d=((i+d.toNat:Nat):Int)) (I (?_:i+d.toNat<k.length) (I (?_:i<k.length) (I (?_:((i:Int)+d)+1=((i+d.toNat+1:Nat):Int)) (I (?_:i+d.toNat+1<k.length) (I (?_:((i:Int)+d)+1=((i+d.toNat+1:Nat):Int)) (I (?_:i+d.toNat+1<k.length) (I (?_:i+1<k.length) (I (zJ rfl (by omega):qK .sub .i64 d 1 (d-1)) (I (?_:Int.natAbs (d-1)<=8) (I (?_:(d-1).toNat<n) (I (hp1:Bnd (.sl .rat) (.s 64 (.n 4096)) k) (I (hp2:Bnd .rat (.n 4096) t) (I (?_:0<=d-1) (I (?_:d-1<=6) (I (?_:i+(d-1).toNat+1<k.length) (I (Qr rfl (by omega):qK .add .i64 (i:Int) 1 ((i+1:Nat):Int)) (I (by have:=hp1.1;omega:i+1<=2097152) (I (zJ rfl (by omega):qK .sub .i64 d 1 (d-1)) (I (?_:Int.natAbs (d-1)<=8) (I (?_:(d-1).toNat<n) (I (hp1:Bnd (.sl .rat) (.s 64 (.n 4096)) k) (I (hp2:Bnd .rat (.n 4096) t) (I (?_:0<=d-1) (I (?_:d-1<=6) (I (?_:(i+1)+(d-1).toNat+1<k.length) ((Yf (by omega) (by omega):(((t-(k.getD i 0))/((k.getD (i+d.toNat) 0) -(k.getD i 0)))*(bsp k t at_ (d-1).toNat i))+((((k.getD (i+d.toNat+1) 0) -t)/((k.getD (i+d.toNat+1) 0) -(k.getD (i+1) 0)))*(bsp k t at_ (d-1).toNat (i+1)))=bsp k t at_ d.toNat i))))))))))))))))))))))))))))))))⟩<;>omega)
theorem OZ: ∀n,(Kp n).OK Tryz.prog
 |0=>FI.none (λ_ hp=>Nat.not_lt_zero _ (hp _ q6W)) (λ_ _=>rfl)
 |n+1=>q1b n (OZ n)
abbrev q1a:Ctr Tryz.prog:=FI.c (OZ 8)
abbrev VO:FI:=⟨171,[(.sl .rat),(.int .i64),.rat],[(.s 1048576 (.n 16384)),(.n 8),(.n 16384)],λz=>(λ(k:List Rat)(d:Int)(t:Rat)=>[Bnd (.sl .rat) (.s 64 (.n 4096)) k,Bnd .rat (.n 4096) t,0<=d,d<=6,2*d.toNat+2<=k.length,ivO k t\/d.toNat<=qU k d t]) z.1 z.2.1 z.2.2,λb z=>(λ(k:List Rat)(d:Int)(t:Rat)=> .tup [.one (.dt (.nat .i64) (.n 1048577) (qU k d t-d.toNat)),.one (.dt (.sl .rat) (.s 7 (.n 4194304)) (jc k d t)),.one (.dt (.int .i64) (.n 7) (jv k t))]) z.1 z.2.1 z.2.2⟩
theorem VP:VO.OK Tryz.prog:=qB hmix 44 Tryz.func171 rfl rfl (by decide) [(116,.c HX),(201,.c q1a)] (λ(k:List Rat)(d:Int)(t:Rat) b hx hp=>by have h1:Bnd (.sl .rat) (.s 64 (.n 4096)) k:=hp _ (q6W);have h2:Bnd .rat (.n 4096) t:=hp _ (q6V _ (q6W));have h4:d<=6:=hp _ (q6V _ (q6V _ (q6V _ (q6W))));have h:=Km k d t;have l:=E9 k d t;exact qc (qa (show qU k d t-d.toNat<=1048577 by have:=h1.1;omega) rfl) (qc (qa ⟨show(jc k d t).length<=7 by omega,Gv (λv hv=>h1.2 v hv) h2 h4⟩ rfl) (qc (qa (Bg k t) rfl) qy))) (λ(k:List Rat)(d:Int)(t:Rat) hx hp=>by
 have hl0:k.length<=1048576:=hx.1.1;have hx1:Int.natAbs d<=8:=hx.2.1;have hp0:Bnd (.sl .rat) (.s 64 (.n 4096)) k:=hp _ (q6W);have hp1:Bnd .rat (.n 4096) t:=hp _ (q6V _ (q6W));have hp2:0<=d:=hp _ (q6V _ (q6V _ (q6W)));have hp3:d<=6:=hp _ (q6V _ (q6V _ (q6V _ (q6W))));have hp4:2*d.toNat+2<=k.length:=hp _ (q6V _ (q6V _ (q6V _ (q6V _ (q6W)))));have hp5:ivO k t\/d.toNat<=qU k d t:=hp _ (q6V _ (q6V _ (q6V _ (q6V _ (q6V _ (q6W))))))
 refine⟨.cond (.nil) (.h 5 2 (.i (.n (qU k d t-d.toNat) 1048576)) (.loop [.s 12 (.nat .i64) (.n 1048577),.g 11 90001 .rat (.n 4194304) 64] (λ((i,out):Nat×List Rat)=>out=bvN k d t (i-(qU k d t-d.toNat))/\qU k d t-d.toNat<=i/\i<=qU k d t+1) (λ((i,out):Nat×List Rat)=>qU k d t+1-i) (λ((i,out):Nat×List Rat)=> .cond (.h 8 7 (.mk (.im .rat (.n 4194304))) (.nil)) (.h 9 2 (.i (.n (qU k d t-d.toNat) 1048576)) (.pre 999999 (.frz 90001 true [6,7,8]) (.nil)))))),kcast (by kernel_rfl) (I (?_:0<=d) (I (?_:d.toNat+2<=k.length) (Sp (jv k t≠0) (λh1=>q6q (Tf h1:0=qU k d t-d.toNat) (q6q (Tg h1:[]=jc k d t) (Eq.refl (jv k t)))) (λh2=>have hO:=(Ai h2);have hiv:=hp5.resolve_left hO;have hle:=(M0 (k:=k) (d:=d) (t:=t));I (zJ (by omega) (by omega):qK .sub .i64 ((qU k d t:Nat):Int) d ((qU k d t-d.toNat:Nat):Int)) (I (?_:qU k d t-d.toNat<=1048576) (I (rfl:0=([]:List Rat).length) (I (⟨by rw[Nat.sub_self];rfl,by omega,by omega⟩:([]:List Rat)=bvN k d t ((qU k d t-d.toNat) -(qU k d t-d.toNat))/\qU k d t-d.toNat<=(qU k d t-d.toNat)/\(qU k d t-d.toNat)<=qU k d t+1) (λ(i:Nat)(out:List Rat)(hb3:HB [.s 12 (.nat .i64) (.n 1048577),.g 11 90001 .rat (.n 4194304) 64] (i,out))(hI:out=bvN k d t (i-(qU k d t-d.toNat))/\qU k d t-d.toNat<=i/\i<=qU k d t+1)=>have hv6:=(show i<=1048577 from hb3.1);have hv7:=(show out.length<=64 from hb3.2.1);have hI1:=hI.2.1;have hI2:=hI.2.2;have hol:=(show out.length=i-(qU k d t-d.toNat)from by rw[hI.1,TY]);Sp (i<=qU k d t) (λh4=>I (?_:d.toNat<8) (I (hp0:Bnd (.sl .rat) (.s 64 (.n 4096)) k) (I (hp1:Bnd .rat (.n 4096) t) (I (?_:0<=d) (I (?_:d<=6) (I (?_:i+d.toNat+1<k.length) (I (?_:out.length=out.length) (I (show(i+1)<=1048577 by omega:Bnd (.nat .i64) (.n 1048577) (i+1)) (I (by(try simp only[q6M,q6N,q6Q])<;>omega:out.length+[bsp k t (qU k d t) d.toNat i].length=(out++[bsp k t (qU k d t) d.toNat i]).length) (I (by(try simp only[q6M,q6N,q6Q])<;>omega:out.length+[bsp k t (qU k d t) d.toNat i].length<=64) (q6q (⟨by rw[hI.1,Qs (by omega),show i+1-(qU k d t-d.toNat)=i-(qU k d t-d.toNat)+1 by omega],by omega,by omega⟩:(out++[bsp k t (qU k d t) d.toNat i])=bvN k d t ((i+1) -(qU k d t-d.toNat))/\qU k d t-d.toNat<=(i+1)/\(i+1)<=qU k d t+1) (?_:qU k d t+1-(i+1)<qU k d t+1-i)))))))))))) (λh5=>I (zJ (by omega) (by omega):qK .sub .i64 ((qU k d t:Nat):Int) d ((qU k d t-d.toNat:Nat):Int)) (I (?_:qU k d t-d.toNat<=1048576) (I (?_:out.length=out.length) (q6q (Eq.refl (qU k d t-d.toNat)) (q6q (by rw[hI.1,show i-(qU k d t-d.toNat)=d.toNat+1 by omega,TX hO]:out=jc k d t) (GW hO:0=jv k t))))))))))))))⟩<;>omega)
abbrev VN:Ctr Tryz.prog:=FI.c VP
abbrev VC:FI:=⟨117,[(.pr .rat (.pr .rat (.pr .rat .rat)))],[(.p (.n 1073741824) (.p (.n 1073741824) (.p (.n 1073741824) (.n 1073741824))))],λ_=>[],λb z=>(λ(h:Rat×Rat×Rat×Rat)=> .c (.agg [.dt (.pr jj .rat) (.p (bV3 (2*(b0 b).mx+2)) (.n (2*(b0 b).mx+2))) (jw h)])) z⟩
theorem VD:VC.OK Tryz.prog:=qB hmix 18 Tryz.func117 rfl rfl (by decide) [(21,.c wB),(169,.c J2),(170,.c XX)] (λ(h:Rat×Rat×Rat×Rat) b hx hp=>qh (ET (Bnds.h1 hx))) (λ(h:Rat×Rat×Rat×Rat) hx hp=>by
 refine⟨.nil,kcast (by kernel_rfl) ((rfl:(Bv (((1:Int):Rat)/h.2.2.2) (h.1,h.2.1,h.2.2.1),h.2.2.2)=jw h))⟩)
abbrev M1:Ctr Tryz.prog:=FI.c VD
abbrev q1c:FI:=⟨118,[(.pr (.int .i64) (.pr (.sl .rat) (.sl (.pr (.pr .rat (.pr .rat .rat)) .rat)))),.rat],[(.p (.n 8) (.p (.s 1048576 (.n 16384)) (.s 1048576 (.p (.p (.n 262144) (.p (.n 262144) (.n 262144))) (.n 262144))))),(.n 16384)],λz=>(λ(c:Int×List Rat×List ((Rat×Rat×Rat)×Rat))(t:Rat)=>[EvC c t,¬ivO c.2.1 t]) z.1 z.2,λb z=>(λ(c:Int×List Rat×List ((Rat×Rat×Rat)×Rat))(t:Rat)=> .c (.agg [.dt jB (bF4 33554432) (homV c t)])) z.1 z.2⟩
theorem q1d:q1c.OK Tryz.prog:=qB hmix 55 Tryz.func118 rfl rfl (by decide) [(20,.c Dk),(22,.c EL),(171,.c VN),(172,.c XI)] (λ(c:Int×List Rat×List ((Rat×Rat×Rat)×Rat))(t:Rat) b hx hp=>qh (OL (hp _ (q6W)))) (λ(c:Int×List Rat×List ((Rat×Rat×Rat)×Rat))(t:Rat) hx hp=>by
 have hp0:EvC c t:=hp _ (q6W);have hp1: ¬ivO c.2.1 t:=hp _ (q6V _ (q6W))
 refine⟨.loop [.s 9 (.nat .i64) (.n 8),.r 8 (.pr .rat (.pr .rat (.pr .rat .rat))) (.p (.n 33554432) (.p (.n 33554432) (.p (.n 33554432) (.n 33554432))))] (λ((i,o):Nat×Rat×Rat×Rat×Rat)=>o=homN c.2.2 (bvc c t) (qU c.2.1 c.1 t-c.1.toNat) i/\i<=c.1.toNat+1) (λ((i,o):Nat×Rat×Rat×Rat×Rat)=>c.1.toNat+1-i) (λ((i,o):Nat×Rat×Rat×Rat×Rat)=> .nil),kcast (by kernel_rfl) (have hd0:=hp0.d0;have hd6:=hp0.d6;have hkl:=hp0.kl;have hpl:=hp0.pl;have hiv:=(hp0.iv.resolve_left hp1);have hle:=(M0 (k:=c.2.1) (d:=c.1) (t:=t));have hbl:=(EP (d:=c.1) hp1:(bvc c t).length=c.1.toNat+1);I (hp0.kb:Bnd (.sl .rat) (.s 64 (.n 4096)) c.2.1) (I (hp0.tb:Bnd .rat (.n 4096) t) (I (?_:0<=c.1) (I (?_:c.1<=6) (I (?_:2*c.1.toNat+2<=c.2.1.length) (I (hp0.iv:ivO c.2.1 t\/c.1.toNat<=qU c.2.1 c.1 t) (I (⟨rfl,by omega⟩:(0,0,0,0)=homN c.2.2 (bvc c t) (qU c.2.1 c.1 t-c.1.toNat) 0/\0<=c.1.toNat+1) (λ(i:Nat)(o:Rat×Rat×Rat×Rat)(hb1:HB [.s 9 (.nat .i64) (.n 8),.r 8 (.pr .rat (.pr .rat (.pr .rat .rat))) (.p (.n 33554432) (.p (.n 33554432) (.p (.n 33554432) (.n 33554432))))] (i,o))(hI:o=homN c.2.2 (bvc c t) (qU c.2.1 c.1 t-c.1.toNat) i/\i<=c.1.toNat+1)=>have hv4:=(show i<=8 from hb1.1);have hI1:=hI.2;Sp (i<(jc c.2.1 c.1 t).length) (λh2=>I (?_:(qU c.2.1 c.1 t-c.1.toNat)+i<c.2.2.length) (I (?_:i<(jc c.2.1 c.1 t).length) (I (?_:i<(jc c.2.1 c.1 t).length) (I (?_:i<(jc c.2.1 c.1 t).length) (I (?_:i<(jc c.2.1 c.1 t).length) (I ((show i+1<=8 by omega):Bnd (.nat .i64) (.n 8) (i+1)) (I ((by rw[hI.1];exact Vp hp0 (show i+1<=7 by omega)):Bnd (.pr .rat (.pr .rat (.pr .rat .rat))) (.p (.n 33554432) (.p (.n 33554432) (.p (.n 33554432) (.n 33554432)))) (o.1+(((jc c.2.1 c.1 t).getD i 0)*((zg (c.2.2.getD ((qU c.2.1 c.1 t-c.1.toNat)+i) ((0,(0,0)),0))).1)),o.2.1+(((jc c.2.1 c.1 t).getD i 0)*(((zg (c.2.2.getD ((qU c.2.1 c.1 t-c.1.toNat)+i) ((0,(0,0)),0))).2).1)),o.2.2.1+(((jc c.2.1 c.1 t).getD i 0)*((((zg (c.2.2.getD ((qU c.2.1 c.1 t-c.1.toNat)+i) ((0,(0,0)),0))).2).2).1)),o.2.2.2+(((jc c.2.1 c.1 t).getD i 0)*((((zg (c.2.2.getD ((qU c.2.1 c.1 t-c.1.toNat)+i) ((0,(0,0)),0))).2).2).2)))) (q6q (⟨by rw[hI.1];rfl,by omega⟩:(o.1+(((jc c.2.1 c.1 t).getD i 0)*((zg (c.2.2.getD ((qU c.2.1 c.1 t-c.1.toNat)+i) ((0,(0,0)),0))).1)),o.2.1+(((jc c.2.1 c.1 t).getD i 0)*(((zg (c.2.2.getD ((qU c.2.1 c.1 t-c.1.toNat)+i) ((0,(0,0)),0))).2).1)),o.2.2.1+(((jc c.2.1 c.1 t).getD i 0)*((((zg (c.2.2.getD ((qU c.2.1 c.1 t-c.1.toNat)+i) ((0,(0,0)),0))).2).2).1)),o.2.2.2+(((jc c.2.1 c.1 t).getD i 0)*((((zg (c.2.2.getD ((qU c.2.1 c.1 t-c.1.toNat)+i) ((0,(0,0)),0))).2).2).2)))=homN c.2.2 (bvc c t) (qU c.2.1 c.1 t-c.1.toNat) (i+1)/\(i+1)<=c.1.toNat+1) (?_:c.1.toNat+1-(i+1)<c.1.toNat+1-i))))))))) (λh3=>(by rw[hI.1,show i=(jc c.2.1 c.1 t).length by omega];rfl:o=homV c t))))))))))⟩<;>omega)
abbrev P0:Ctr Tryz.prog:=FI.c q1d
abbrev VF:FI:=⟨61,[(.pr (.int .i64) (.pr (.sl .rat) (.sl (.pr (.pr .rat (.pr .rat .rat)) .rat)))),.rat],[(.p (.n 8) (.p (.s 1048576 (.n 16384)) (.s 1048576 (.p (.p (.n 262144) (.p (.n 262144) (.n 262144))) (.n 262144))))),(.n 16384)],λz=>(λ(c:Int×List Rat×List ((Rat×Rat×Rat)×Rat))(t:Rat)=>[EvC c t]) z.1 z.2,λb z=>(λ(c:Int×List Rat×List ((Rat×Rat×Rat)×Rat))(t:Rat)=> .tup [.agg [.dt jj (bV3 67108868) (evV c t)],.one (.dt (.int .i64) (.n 7) (jv c.2.1 t))]) z.1 z.2⟩
theorem VG:VF.OK Tryz.prog:=qB hmix 26 Tryz.func61 rfl rfl (by decide) [(116,.c HX),(117,.c M1),(118,.c P0)] (λ(c:Int×List Rat×List ((Rat×Rat×Rat)×Rat))(t:Rat) b hx hp=>qc (qh (Jd (hp _ (q6W)))) (qc (qa (Bg _ t) rfl) qy)) (λ(c:Int×List Rat×List ((Rat×Rat×Rat)×Rat))(t:Rat) hx hp=>by
 have hp0:EvC c t:=hp _ (q6W)
 refine⟨.nil,kcast (by kernel_rfl) (have hd0:=hp0.d0;have hkl:=hp0.kl;I (?_:0<=c.1) (I (?_:c.1.toNat+2<=c.2.1.length) (Sp (jv c.2.1 t≠0) (λh1=>q6q (T7 h1:(0,0,0)=evV c t) (Eq.refl (jv c.2.1 t))) (λh2=>I (hp0:EvC c t) (I (Ai (by assumption): ¬ivO c.2.1 t) (q6q (T8 h2:(jw (homV c t)).1=evV c t) (GW (Ai h2):0=jv c.2.1 t)))))))⟩<;>omega)
abbrev VE:Ctr Tryz.prog:=FI.c VG
def pvF(k:List Rat)(i:Nat)(t:Rat)(d j:Nat):Rat:=(t-k.getD (i-d+1+j) 0)/(k.getD (i-d+1+j+d) 0-k.getD (i-d+1+j) 0)
def pvA(k:List Rat)(i:Nat)(t:Rat)(d:Nat)(x:List Rat)(l:List Rat)(j:Nat):List Rat:=l.set (j+1) (l.getD (j+1) 0+pvF k i t d j*x.getD j 0)
def pvN(k:List Rat)(i:Nat)(t:Rat)(d:Nat)(x:List Rat):Nat->List Rat
 |0=>List.replicate (d+1) 0
 |j+1=>(pvA k i t d x (pvN k i t d x j) j).set j ((pvA k i t d x (pvN k i t d x j) j).getD j 0+(((1:Int):Rat) -pvF k i t d j)*x.getD j 0)
def pv(k:List Rat)(i:Nat)(t:Rat):Nat->List Rat
 |0=>[((1:Int):Rat)]
 |d+1=>pvN k i t (d+1) (pv k i t d) (d+1)
theorem Da(k:List Rat)(i:Nat)(t:Rat)(d:Nat)(x:List Rat): ∀j,(pvN k i t d x j).length=d+1
 |0=>by simp[pvN]
 |j+1=>by rw[pvN,List.length_set,pvA,List.length_set,Da k i t d x j]
theorem KM(k:List Rat)(i:Nat)(t:Rat)(d:Nat):(pv k i t d).length=d+1:=by
 cases d with
 |zero=>rfl
 |succ d=>rw[pv,Da]
theorem set_at{l:List Rat}{a b:Nat}{v:Rat}(ha:a<l.length):(l.set a v).getD b 0=if a=b then v else l.getD b 0:=by
 rw[q6E,List.getElem?_set];by_cases e:a=b
 .subst e;simp[ha]
 .simp[e]
def pvU(k:List Rat)(i:Nat)(t:Rat)(d:Nat)(x:List Rat)(m:Nat):Rat:=if m=0 then 0 else pvF k i t d (m-1)*x.getD (m-1) 0
def pvV(k:List Rat)(i:Nat)(t:Rat)(d:Nat)(x:List Rat)(m:Nat):Rat:=(((1:Int):Rat) -pvF k i t d m)*x.getD m 0
theorem Fi(k:List Rat)(i:Nat)(t:Rat)(d:Nat)(x:List Rat): ∀j m,j<=d->m<=d->(pvN k i t d x j).getD m 0=if m<j then pvU k i t d x m+pvV k i t d x m else if m=j then pvU k i t d x m else 0
 |0,m,hj,hm=>by
  rw[pvN,if_neg (by omega)]
  have e:(List.replicate (d+1) (0:Rat)).getD m 0=0:=by
   rw[q6E,List.getElem?_replicate];split<;>rfl
  rw[e];split
  .rename_i h;subst h;rfl
  .rfl
 |j+1,m,hj,hm=>by
  have ih:=Fi k i t d x j;have hl:=Da k i t d x j;have hla:(pvA k i t d x (pvN k i t d x j) j).length=d+1:=by rw[pvA,List.length_set,hl]
  have ha: ∀m,(pvA k i t d x (pvN k i t d x j) j).getD m 0=if j+1=m then(pvN k i t d x j).getD (j+1) 0+pvF k i t d j*x.getD j 0 else(pvN k i t d x j).getD m 0:=λm=>by
   rw[pvA,set_at (by omega)]
  rw[pvN,set_at (by omega),ha,ha];by_cases e:j=m
  .subst e
   rw[if_pos rfl,if_neg (show¬(j+1=j) by omega),if_pos (show j<j+1 by omega),ih j (by omega) (by omega),if_neg (show¬(j<j) by omega),if_pos rfl];rfl
  .rw[if_neg e]
   by_cases e2:j+1=m
   .subst e2
    rw[if_pos rfl,if_neg (by omega),if_pos rfl,ih (j+1) (by omega) (by omega),if_neg (by omega),if_neg (by omega),Rat.zero_add,pvU,if_neg (by omega)];rfl
   .rw[if_neg e2,ih m (by omega) (by omega)]
    by_cases e3:m<j
    .rw[if_pos e3,if_pos (by omega)]
    .rw[if_neg e3,if_neg (show¬m=j by omega),if_neg (by omega),if_neg (by omega)]
theorem fr_c {a b t : Rat} (h : b - a ≠ 0) : ((1 : Int) : Rat) - (t - a) / (b - a) = (b - t) / (b - a) := by
 have e1 : ((1 : Int) : Rat) = 1 := rfl;rw [e1, Rat.div_def, Rat.div_def];have h2 : (b - a) * (b - a)⁻¹ = 1 := Rat.mul_inv_cancel _ h;generalize (b - a)⁻¹ = w at *
 grind
structure PvO (k:List Rat) (i:Nat):Prop where
 s: ∀a b,a<=b->b<k.length->k.getD a 0<=k.getD b 0
 w:k.getD i 0<k.getD (i+1) 0
theorem Tv{k:List Rat}{i:Nat}{t:Rat}(h:PvO k i): ∀d,d<=i->i+d<k.length-> ∀j,j<=d->(pv k i t d).getD j 0=bsp k t i d (i-d+j)
 |0,_,_,j,hj=>by
  have:j=0:=by omega
  subst this;rw[pv,bsp,if_pos (by omega)];rfl
 |d+1,hd,hl,j,hj=>by
  have ih:=Tv (t:=t) h d (by omega) (by omega)
  have hout: ∀q,q<i-d\/i<q->q+d<i\/i<q->bsp k t i d q=0:=λq _ hq=>by
   cases d with
   |zero=>rw[bsp,if_neg (by omega)]
   |succ d=>rw[bsp,if_pos (by omega)]
  rw[pv];rw[Fi k i t (d+1) (pv k i t d) (d+1) j (q7j _) hj]
  conv=>rhs;rw[bsp,if_neg (show¬(i<i-(d+1)+j\/i-(d+1)+j+(d+1)<i) by omega)]
  have hU:pvU k i t (d+1) (pv k i t d) j=(t-k.getD (i-(d+1)+j) 0)/(k.getD (i-(d+1)+j+(d+1)) 0-k.getD (i-(d+1)+j) 0)*bsp k t i d (i-(d+1)+j):=by
   unfold pvU;split
   .rename_i e;subst e
    rw[hout (i-(d+1)+0) (by omega) (by omega),Rat.mul_zero]
   .rename_i e
    rw[ih (j-1) (by omega),pvF,show i-(d+1)+1+(j-1)=i-(d+1)+j by omega,show i-d+(j-1)=i-(d+1)+j by omega]
  have hV:j<d+1->pvV k i t (d+1) (pv k i t d) j=(k.getD (i-(d+1)+j+(d+1)+1) 0-t)/(k.getD (i-(d+1)+j+(d+1)+1) 0-k.getD (i-(d+1)+j+1) 0)*bsp k t i d (i-(d+1)+j+1):=λhj2=>by
   unfold pvV;rw[ih j (by omega),pvF,show i-(d+1)+1+j=i-(d+1)+j+1 by omega,show i-d+j=i-(d+1)+j+1 by omega,show i-(d+1)+j+1+(d+1)=i-(d+1)+j+(d+1)+1 by omega];rw[fr_c];have h1:=h.s (i-(d+1)+j+1) i (by omega) (by omega);have h2:=h.s (i+1) (i-(d+1)+j+(d+1)+1) (by omega) (by omega);have h3:=h.w
   grind
  by_cases e:j<d+1
  .rw[if_pos e,hU,hV e]
  .rw[if_neg e,if_pos (by omega),hU,hout (i-(d+1)+j+1) (by omega) (by omega),Rat.mul_zero,Rat.add_zero]
section
def ipF(k:List Rat)(t:Rat):Nat->Nat->Nat->Nat
 |0,_,b=>b
 |n+1,i,b=>if i+1<k.length then(if 0<=j5 (k.getD i 0) (k.getD (i+1) 0)then ipF k t n (i+1) b else if j5 t (k.getD (i+1) 0)<0 then i else ipF k t n (i+1) i)else b
def jk(k:List Rat)(t:Rat):Nat:=if ivO k t then 0 else ipF k t k.length 0 0
theorem Kj{k:List Rat}{t:Rat}: ∀n i b,b<=k.length->ipF k t n i b<=k.length
 |0,_,_,h=>h
 |n+1,i,b,h=>by
  rw[ipF]
  repeat' split
  .exact Kj n _ _ h
  .omega
  .exact Kj n _ _ (by omega)
  .exact h
theorem Vs(k:List Rat)(t:Rat):jk k t<=k.length:=by
 unfold jk;split
 .omega
 .exact Kj _ _ _ (q7G _)
section
variable {k:List Rat} {t:Rat} {i b:Nat}
theorem ip_a(h:ipF k t (k.length-i) i b=ipF k t k.length 0 0)(hi:i+1<k.length)(hc:0<=j5 (k.getD i 0) (k.getD (i+1) 0)):ipF k t (k.length-(i+1)) (i+1) b=ipF k t k.length 0 0:=by
 rw[<-h,show k.length-i=k.length-(i+1)+1 by omega];conv=>rhs;rw[ipF,if_pos hi,if_pos hc]
theorem ip_b(h:ipF k t (k.length-i) i b=ipF k t k.length 0 0)(hi:i+1<k.length)(hc: ¬0<=j5 (k.getD i 0) (k.getD (i+1) 0))(hd: ¬j5 t (k.getD (i+1) 0)<0):ipF k t (k.length-(i+1)) (i+1) i=ipF k t k.length 0 0:=by
 rw[<-h,show k.length-i=k.length-(i+1)+1 by omega];conv=>rhs;rw[ipF,if_pos hi,if_neg hc,if_neg hd]
theorem ip_c(h:ipF k t (k.length-i) i b=ipF k t k.length 0 0)(hi:i+1<k.length)(hc: ¬0<=j5 (k.getD i 0) (k.getD (i+1) 0))(hd:j5 t (k.getD (i+1) 0)<0):i=ipF k t k.length 0 0:=by
 rw[<-h,show k.length-i=k.length-(i+1)+1 by omega,ipF,if_pos hi,if_neg hc,if_pos hd]
theorem ip_d(h:ipF k t (k.length-i) i b=ipF k t k.length 0 0)(hi: ¬i+1<k.length):b=ipF k t k.length 0 0:=by
 rw[<-h]
 cases k.length-i with
 |zero=>rfl
 |succ n=>rw[ipF,if_neg hi]
end
theorem ES{x y:Rat}:j5 x y<0↔x<y:=by unfold j5;(repeat' split)<;>grind
theorem q4u{x y:Rat}:0<j5 x y↔y<x:=by unfold j5;(repeat' split)<;>grind
theorem T1{x y:Rat}:0<=j5 x y↔y<=x:=by unfold j5;(repeat' split)<;>grind
theorem Ko{k:List Rat}{t:Rat}: ∀n,ivl k t n<n->t<k.getD (ivl k t n+1) 0
 |0,h=>by omega
 |n+1,h=>by
  rw[ivl]at h⊢;split at h
  .rename_i c
   rw[if_pos c];by_cases e:ivl k t n=n
   .rw[e];exact ES.1 c
   .exact Ko n (by have:=AO k t n;omega)
  .omega
theorem Kn{k:List Rat}{t:Rat}: ∀n,0<ivl k t n->k.getD (ivl k t n) 0<=t
 |0,h=>by rw[ivl]at h;omega
 |n+1,h=>by
  rw[ivl]at h⊢;split at h
  .rename_i c;rw[if_pos c];exact Kn n h
  .rename_i c;rw[if_neg c];have:=mt ES.2 c;grind
structure IpO (k:List Rat) (d:Nat):Prop where
 s: ∀a b,a<=b->b<k.length->k.getD a 0<=k.getD b 0
 l:2*d+2<=k.length
 e:k.getD (k.length-2-d) 0<k.getD (k.length-1-d) 0
 z:k.getD (k.length-1) 0<=k.getD (k.length-1-d) 0
 a:k.getD d 0<=k.getD 0 0
theorem LX{k:List Rat}{t:Rat}{d:Nat}(h:IpO k d)(b:Nat): ∀n i,k.length-1-d<=i->ipF k t n i b=b
 |0,_,_=>rfl
 |n+1,i,hi=>by
  rw[ipF];split
  .rename_i c
   rw[if_pos (T1.2 (by
    have h1:=h.s (i+1) (k.length-1) (by omega) (by omega);have h2:=h.s (k.length-1-d) i hi (by omega);have h3:=h.z
    grind)),LX h b n _ (by omega)]
  .rfl
theorem ip_w{k:List Rat}{t:Rat}{d:Nat}(h:IpO k d)(hO: ¬ivO k t):k.getD (ivl k t (k.length-2-d)) 0<k.getD (ivl k t (k.length-2-d)+1) 0:=by
 have hl:=AO k t (k.length-2-d);by_cases c:ivl k t (k.length-2-d)<k.length-2-d
 .have h1:=Ko _ c
  by_cases z:ivl k t (k.length-2-d)=0
  .rw[z]at h1⊢
   have h2: ¬j5 t (k.getD 0 0)<0:=λq=>hO (.inl q)
   have h3:=mt ES.2 h2
   grind
  .have h2:=Kn (k:=k) (t:=t) (k.length-2-d) (by omega)
   grind
 .have e:ivl k t (k.length-2-d)=k.length-2-d:=by omega
  rw[e,show k.length-2-d+1=k.length-1-d by have:=h.l;omega];exact h.e
theorem MU{k:List Rat}{t:Rat}{d:Nat}(h:IpO k d)(hO: ¬ivO k t): ∀n i b,i<=ivl k t (k.length-2-d)->k.length-i<=n->ipF k t n i b=ivl k t (k.length-2-d)
 |0,i,b,hi,hn=>by have:=AO k t (k.length-2-d);have:=h.l;omega
 |n+1,i,b,hi,hn=>by
  have hl:=AO k t (k.length-2-d);have hk:=h.l;rw[ipF,if_pos (by omega)];by_cases c:i<ivl k t (k.length-2-d)
  .have h1:=h.s (i+1) (ivl k t (k.length-2-d)) (by omega) (by omega)
   have h2:=Kn (k:=k) (t:=t) (k.length-2-d) (by omega);split
   .exact MU h hO n _ _ (by omega) (by omega)
   .rw[if_neg (mt ES.1 (by grind))]
    exact MU h hO n _ _ (by omega) (by omega)
  .have e:i=ivl k t (k.length-2-d):=by omega
   subst e;have hw:=ip_w h hO;rw[if_neg (mt T1.1 (by grind))];split
   .rfl
   .rename_i g
    by_cases c2:ivl k t (k.length-2-d)<k.length-2-d
    .exact absurd (ES.2 (Ko _ c2)) g
    .exact LX h _ n _ (by omega)
theorem GU{k:List Rat}{t:Rat}{d:Int}(h:IpO k d.toNat):jk k t=qU k d t:=by
 unfold jk qU;split
 .rfl
 .rename_i hO
  exact MU h hO _ _ _ (q7G _) (by omega)
theorem Tc{k:List Rat}{t:Rat}{d:Nat}(h:IpO k d)(hO: ¬ivO k t):d<=ivl k t (k.length-2-d):=by
 have hw:=ip_w (t:=t) h hO;refine Nat.le_of_not_lt λc=>?_
 have h1:=h.s 0 (ivl k t (k.length-2-d)) (by omega) (by have:=h.l;omega);have h2:=h.s (ivl k t (k.length-2-d)+1) d (by omega) (by have:=h.l;omega);have h3:=h.a
 grind
theorem q4S{k:List Rat}{t:Rat}{d:Int}(h:IpO k d.toNat)(hO: ¬ivO k t):PvO k (jk k t):=by
 rw[GU h];unfold qU;rw[if_neg hO]
 exact⟨h.s,ip_w h hO⟩
theorem q29{k:List Rat}{t:Rat}{d:Int}(h:IpO k d.toNat)(hO: ¬ivO k t):pv k (jk k t) t d.toNat=jc k d t:=by
 have hp:=q4S (d:=d) h hO;have hi:jk k t=qU k d t:=GU h;have hd:d.toNat<=qU k d t:=by unfold qU;rw[if_neg hO];exact Tc h hO
 have hu:qU k d t<=k.length-2-d.toNat:=by unfold qU;rw[if_neg hO];exact AO k t _
 have hl:=h.l;apply List.ext_getElem
 .rw[KM,EP hO]
 .intro j h1 h2
  have g1:(pv k (jk k t) t d.toNat)[j]=(pv k (jk k t) t d.toNat).getD j 0:=(vq h1).symm;have h3:j<=d.toNat:=by rw[KM]at h1;omega
  rw[g1,Tv hp d.toNat (by rw[hi];exact hd) (by rw[hi];omega) j h3,hi];simp only[jc,if_neg hO,List.getElem_map,List.getElem_range]
end
abbrev Ws:FI:=⟨198,[(.sl .rat),(.int .i64),.rat],[(.s 1048576 (.n 68719476736)),(.n 1099511627776),(.n 68719476736)],λz=>(λ(k:List Rat)(d:Int)(t:Rat)=>[0<k.length]) z.1 z.2.1 z.2.2,λb z=>(λ(k:List Rat)(d:Int)(t:Rat)=> .tup [.one (.dt (.nat .i64) (.n (b0 b).len) (jk k t)),.one (.dt (.int .i64) (.n 7) (jv k t))]) z.1 z.2.1 z.2.2⟩
theorem Wt:Ws.OK Tryz.prog:=qB hmix 60 Tryz.func198 rfl rfl (by decide) [(47,.c jQ)] (λ(k:List Rat)(d:Int)(t:Rat) b hx hp=>qc (qa (show jk k t<=(b0 b).len from q7k (Vs k t) (Bnds.h3 hx).1.slm.1) rfl) (qc (qa (Bg k t) rfl) qy)) (λ(k:List Rat)(d:Int)(t:Rat) hx hp=>by
 have hl0:k.length<=1048576:=hx.1.1;have hx1:Int.natAbs d<=1099511627776:=hx.2.1;have hp0:0<k.length:=hp _ (q6W)
 refine⟨.cond (.dead) (.cond (.nil) (.h 1 16 (.i .sub) (.cond (.nil) (.loop [.s 9 (.nat .i64) (.n 1048576),.s 8 (.nat .i64) (.n 1048576)] (λ((i,m):Nat×Nat)=>ipF k t (k.length-i) i m=ipF k t k.length 0 0/\i<=k.length) (λ((i,m):Nat×Nat)=>k.length-i) (λ((i,m):Nat×Nat)=> .nil))))),kcast (by kernel_rfl) (Sp (k.length=0) (λh1=>(?_:False)) (λh2=>I (?_:0<k.length) (Sp (j5 t (k.getD 0 0)<0) (λh3=>q6q ((if_pos (.inl h3)).symm:0=jk k t) ((if_pos (.inl h3)).symm:7=jv k t)) (λh4=>I (?_:1<=k.length) (I (?_:k.length-1<k.length) (Sp (0<j5 t (k.getD (k.length-1) 0)) (λh5=>q6q ((if_pos (.inr h5)).symm:0=jk k t) ((if_pos (.inr h5)).symm:7=jv k t)) (λh6=>I (⟨rfl,q7G _⟩:ipF k t (k.length-0) 0 0=ipF k t k.length 0 0/\0<=k.length) (λ(i:Nat)(m:Nat)(hb7:HB [.s 9 (.nat .i64) (.n 1048576),.s 8 (.nat .i64) (.n 1048576)] (i,m))(hI:ipF k t (k.length-i) i m=ipF k t k.length 0 0/\i<=k.length)=>have hv14:=(show i<=1048576 from hb7.1);have hv15:=(show m<=1048576 from hb7.2);have hIi:=hI.2;Sp (i+1<k.length) (λh8=>I (?_:i<k.length) (I (?_:i+1<k.length) (Sp (0<=j5 (k.getD i 0) (k.getD (i+1) 0)) (λh9=>I (show(i+1)<=1048576 by omega:Bnd (.nat .i64) (.n 1048576) (i+1)) (q6q (⟨ip_a hI.1 (by omega) h9,by omega⟩:ipF k t (k.length-(i+1)) (i+1) m=ipF k t k.length 0 0/\(i+1)<=k.length) (?_:k.length-(i+1)<k.length-i))) (λh10=>I (?_:i+1<k.length) (Sp (j5 t (k.getD (i+1) 0)<0) (λh11=>q6q ((ip_c hI.1 (by omega) h10 h11).trans (if_neg (not_or.2 ⟨h4,h6⟩)).symm:i=jk k t) ((if_neg (not_or.2 ⟨h4,h6⟩)).symm:0=jv k t)) (λh12=>I (show(i+1)<=1048576 by omega:Bnd (.nat .i64) (.n 1048576) (i+1)) (q6q (⟨ip_b hI.1 (by omega) h10 h12,by omega⟩:ipF k t (k.length-(i+1)) (i+1) i=ipF k t k.length 0 0/\(i+1)<=k.length) (?_:k.length-(i+1)<k.length-i)))))))) (λh13=>q6q ((ip_d hI.1 (by omega)).trans (if_neg (not_or.2 ⟨h4,h6⟩)).symm:m=jk k t) ((if_neg (not_or.2 ⟨h4,h6⟩)).symm:0=jv k t))))))))))⟩<;>omega)
abbrev B5:Ctr Tryz.prog:=FI.c Wt
abbrev Wi:FI:=⟨199,[.rat,.rat,.rat],[(.n 16384),(.n 16384),(.n 16384)],λ_=>[],λb z=>(λ(x:Rat)(y:Rat)(t:Rat)=> .c (.agg [.dt .rat (.n (((b2 b).nb+(b0 b).nb+1)+((b1 b).nb+(b0 b).nb+1))) ((t-x)/(y-x))])) z.1 z.2.1 z.2.2⟩
theorem Wj:Wi.OK Tryz.prog:=qB hmix 20 Tryz.func199 rfl rfl (by decide) [(48,.c wR),(49,.c vt)] (λ(x:Rat)(y:Rat)(t:Rat) b hx hp=>jL (BR (Cg (Bnds.h3 hx).2.2 (Bnds.h3 hx).1) (Cg (Bnds.h3 hx).2.1 (Bnds.h3 hx).1))) (λ(x:Rat)(y:Rat)(t:Rat) hx hp=>by
 refine⟨.nil,kcast (by kernel_rfl) ((Eq.refl ((t-x)/(y-x))))⟩)
abbrev za:Ctr Tryz.prog:=FI.c Wj
section
def pvB(m:Nat):Nat->Nat
 |0=>2
 |d+1=>2*pvB m d+(8*m+8)
theorem RO(m:Nat){a c:Nat}(h:a<=c):pvB m a<=pvB m c:=by
 induction h with
 |refl=>exact q7j _
 |step h ih=>rw[pvB];omega
section
variable {k:List Rat} {t:Rat} {m B:Nat} {x:List Rat}
theorem Nk(hk: ∀v∈k,Bnd .rat (.n m) v)(ht:Bnd .rat (.n m) t)(i d j:Nat):Bnd .rat (.n (4*m+2)) (pvF k i t d j):=
 qE (Jc (DT ht (w7 hk _)) (DT (w7 hk _) (w7 hk _))) (by omega)
theorem q5E(hk: ∀v∈k,Bnd .rat (.n m) v)(ht:Bnd .rat (.n m) t)(hx: ∀v∈x,Bnd .rat (.n B) v)(i d j:Nat):Bnd .rat (.n (4*m+2+B)) (pvU k i t d x j):=by
 unfold pvU;split
 .exact qY _
 .exact vH (Nk hk ht _ _ _) (w7 hx _)
theorem q5F(hk: ∀v∈k,Bnd .rat (.n m) v)(ht:Bnd .rat (.n m) t)(hx: ∀v∈x,Bnd .rat (.n B) v)(i d j:Nat):Bnd .rat (.n (4*m+4+B)) (pvV k i t d x j):=by
 unfold pvV;exact qE (vH (DT (Jv 1 (q7j 1)) (Nk hk ht _ _ _)) (w7 hx _)) (by omega)
theorem Ts(hk: ∀v∈k,Bnd .rat (.n m) v)(ht:Bnd .rat (.n m) t)(hx: ∀v∈x,Bnd .rat (.n B) v){i d j:Nat}(hj:j<d):Bnd .rat (.n (2*B+(8*m+8))) ((pvN k i t d x j).getD (j+1) 0+pvF k i t d j*x.getD j 0):=by
 rw[Fi k i t d x j (j+1) (by omega) (by omega),if_neg (by omega),if_neg (by omega),Rat.zero_add];exact qE (vH (Nk hk ht _ _ _) (w7 hx _)) (by omega)
theorem Wv{i d j:Nat}(hj:j<d):(pvA k i t d x (pvN k i t d x j) j).getD j 0=pvU k i t d x j:=by
 rw[pvA,set_at (by rw[Da];omega),if_neg (by omega),Fi k i t d x j j (by omega) (by omega),if_neg (by omega),if_pos rfl]
theorem Tu(hk: ∀v∈k,Bnd .rat (.n m) v)(ht:Bnd .rat (.n m) t)(hx: ∀v∈x,Bnd .rat (.n B) v){i d j:Nat}(hj:j<d):Bnd .rat (.n (2*B+(8*m+8))) ((pvA k i t d x (pvN k i t d x j) j).getD j 0+(((1:Int):Rat) -pvF k i t d j)*x.getD j 0):=by
 rw[Wv hj];exact qE (AI (q5E hk ht hx i d j) (q5F hk ht hx i d j)) (by omega)
theorem Tt(hk: ∀v∈k,Bnd .rat (.n m) v)(ht:Bnd .rat (.n m) t)(hx: ∀v∈x,Bnd .rat (.n B) v){i d:Nat}: ∀j,j<=d-> ∀v∈pvN k i t d x j,Bnd .rat (.n (2*B+(8*m+8))) v
 |0,_=>λv hv=>by rw[pvN]at hv;rw[(List.mem_replicate.1 hv).2];exact qY _
 |j+1,h=>λv hv=>by
  rw[pvN]at hv;rcases List.mem_or_eq_of_mem_set hv with h1|h1
  .rw[pvA]at h1
   rcases List.mem_or_eq_of_mem_set h1 with h2|h2
   .exact Tt hk ht hx j (by omega) v h2
   .rw[h2];exact Ts hk ht hx (by omega)
  .rw[h1];exact Tu hk ht hx (by omega)
theorem pv_b(hk: ∀v∈k,Bnd .rat (.n m) v)(ht:Bnd .rat (.n m) t)(i:Nat): ∀d,∀v∈pv k i t d,Bnd .rat (.n (pvB m d)) v
 |0=>λv hv=>by rw[pv,q70]at hv;rw[hv];exact qE (Jv 1 (q7j 1)) (by rw[pvB];omega)
 |d+1=>λv hv=>by
  rw[pv]at hv;exact Tt hk ht (pv_b hk ht i d) (d+1) (q7j _) v hv
theorem pv_s{i q j:Nat}{o:List Rat}(hx:x=pv k i t (q-1))(hq:1<=q)(ho:o=pvN k i t q x j)(hj:j=q):o=pv k i t (q+1-1):=by
 subst hj;subst hx
 obtain⟨d,rfl⟩: ∃d,j=d+1:=⟨j-1,by omega⟩;rw[ho];rfl
end
section
variable {k:List Rat} {t:Rat} {i q j:Nat} {x o:List Rat}
theorem q28{a:Nat}(h:a<=6):pvB 4096 a<=2065016:=q7k (RO 4096 h) (by decide)
theorem Tw(hk:Bnd (.sl .rat) (.s 64 (.n 4096)) k)(ht:Bnd .rat (.n 4096) t)(hx:x=pv k i t (q-1))(hq:1<=q)(hq6:q<=6)(ho:o=pvN k i t q x j)(hj:j<q):
  Bnd .rat (.n 4194304) (o.getD (j+1) 0+pvF k i t q j*x.getD j 0)/\Bnd .rat (.n 4194304) ((o.set (j+1) (o.getD (j+1) 0+pvF k i t q j*x.getD j 0)).getD j 0+(((1:Int):Rat) -pvF k i t q j)*x.getD j 0):=by
 subst ho;subst hx
 have hb:=pv_b (λv hv=>hk.2 v hv) ht i (q-1)
 have e:2*pvB 4096 (q-1)+(8*4096+8)=pvB 4096 q:=by
  obtain⟨d,rfl⟩: ∃d,q=d+1:=⟨q-1,by omega⟩;rfl
 have hm:=q28 hq6;exact⟨qE (Ts (λv hv=>hk.2 v hv) ht hb hj) (by omega),qE (Tu (λv hv=>hk.2 v hv) ht hb hj) (by omega)⟩
theorem ip_r{d:Int}(h:IpO k d.toNat)(hO: ¬ivO k t):d.toNat<=jk k t/\jk k t+d.toNat+1<k.length:=by
 have hi:jk k t=qU k d t:=GU h;have h1:=Tc h hO;have h2:=AO k t (k.length-2-d.toNat);have h3:=h.l;rw[hi];unfold qU;rw[if_neg hO];omega
theorem q2a{d:Int}(h:IpO k d.toNat)(hO: ¬ivO k t)(hx:x=pv k (jk k t) t (q-1))(hq:q=d.toNat+1):x=jc k d t:=by
 rw[hx,<-q29 h hO,hq];rfl
end
end
abbrev Ww:FI:=⟨163,[(.sl .rat),(.int .i64),.rat],[(.s 1048576 (.n 16384)),(.n 8),(.n 16384)],λz=>(λ(k:List Rat)(d:Int)(t:Rat)=>[Bnd (.sl .rat) (.s 64 (.n 4096)) k,Bnd .rat (.n 4096) t,0<=d,d<=6,IpO k d.toNat]) z.1 z.2.1 z.2.2,λb z=>(λ(k:List Rat)(d:Int)(t:Rat)=> .tup [.one (.dt (.nat .i64) (.n 1048577) (qU k d t-d.toNat)),.one (.dt (.sl .rat) (.s 7 (.n 4194304)) (jc k d t)),.one (.dt (.int .i64) (.n 7) (jv k t))]) z.1 z.2.1 z.2.2⟩
theorem Wx:Ww.OK Tryz.prog:=qB hmix 111 Tryz.func163 rfl rfl (by decide) [(49,.c vt),(50,.c wQ),(51,.c qA),(52,.c j8),(198,.c B5),(199,.c za)] (λ(k:List Rat)(d:Int)(t:Rat) b hx hp=>by have h1:Bnd (.sl .rat) (.s 64 (.n 4096)) k:=hp _ (q6W);have h2:Bnd .rat (.n 4096) t:=hp _ (q6V _ (q6W));have h4:d<=6:=hp _ (q6V _ (q6V _ (q6V _ (q6W))));have h:=Km k d t;have l:=E9 k d t;exact qc (qa (show qU k d t-d.toNat<=1048577 by have:=h1.1;omega) rfl) (qc (qa ⟨show(jc k d t).length<=7 by omega,Gv (λv hv=>h1.2 v hv) h2 h4⟩ rfl) (qc (qa (Bg k t) rfl) qy))) (λ(k:List Rat)(d:Int)(t:Rat) hx hp=>by
 have hl0:k.length<=1048576:=hx.1.1;have hx1:Int.natAbs d<=8:=hx.2.1;have hp0:Bnd (.sl .rat) (.s 64 (.n 4096)) k:=hp _ (q6W);have hp1:Bnd .rat (.n 4096) t:=hp _ (q6V _ (q6W));have hp2:0<=d:=hp _ (q6V _ (q6V _ (q6W)));have hp3:d<=6:=hp _ (q6V _ (q6V _ (q6V _ (q6W))));have hp4:IpO k d.toNat:=hp _ (q6V _ (q6V _ (q6V _ (q6V _ (q6W)))))
 refine⟨.cond (.nil) (.cond (.dead) (.cond (.dead) (.cond (.dead) (.h 6 1 (.mk (.im .rat (.n 4194304))) (.loop [.s 12 (.nat .i64) (.n 8),.s 11 (.sl .rat) (.s 64 (.n 4194304))] (λ((q,x):Nat×List Rat)=>x=pv k (jk k t) t (q-1)/\1<=q/\q<=d.toNat+1) (λ((q,x):Nat×List Rat)=>d.toNat+1-q) (λ((q,x):Nat×List Rat)=> .cond (.h 10 2 (.mk (.arr .rat (.n 4194304))) (.loop [.s 56 (.nat .i64) (.n 64),.a 53 .rat (.n 4194304)] (λ((j,o):Nat×List Rat)=>o=pvN k (jk k t) t q x j/\j<=x.length) (λ((j,o):Nat×List Rat)=>x.length-j) (λ((j,o):Nat×List Rat)=> .cond (.h 14 2 (.i .sub) (.nil)) (.pre 19 (.frz 53 true [13]) (.nil))))) (.h 20 2 (.i (.n (jk k t-d.toNat) 1048576)) (.nil)))))))),kcast (by kernel_rfl) (have hkl:=hp4.l;I (?_:0<k.length) (Sp (jv k t≠0) (λh1=>q6q (Tf h1:0=qU k d t-d.toNat) (q6q (Tg h1:[]=jc k d t) (Eq.refl (jv k t)))) (λh2=>have hO:=(Ai h2);have hiv:=(ip_r hp4 hO);Sp (d<0) (λh3=>(?_:False)) (λh4=>Sp (((jk k t:Nat):Int) -d<0) (λh5=>(?_:False)) (λh6=>Sp (((k.length:Nat):Int)<=((jk k t:Nat):Int)+d) (λh7=>(?_:False)) (λh8=>I (⟨rfl,q7j _,by omega⟩:[((1:Int):Rat)]=pv k (jk k t) t (1-1)/\1<=1/\1<=d.toNat+1) (λ(q:Nat)(x:List Rat)(hb9:HB [.s 12 (.nat .i64) (.n 8),.s 11 (.sl .rat) (.s 64 (.n 4194304))] (q,x))(hI:x=pv k (jk k t) t (q-1)/\1<=q/\q<=d.toNat+1)=>have hv16:=(show q<=8 from hb9.1);have hI1:=hI.2.1;have hI2:=hI.2.2;have hxl:=(show x.length=q by rw[hI.1,KM];omega);Sp ((q:Int)<=d) (λh10=>I (?_:q+1=q+1) (I (⟨rfl,q7G _⟩:(List.replicate (q+1) (0:Rat))=pvN k (jk k t) t q x 0/\0<=x.length) (λ(j:Nat)(o:List Rat)(hb11:HB [.s 56 (.nat .i64) (.n 64),.a 53 .rat (.n 4194304)] (j,o))(hJ:o=pvN k (jk k t) t q x j/\j<=x.length)=>have hv14:=(show j<=64 from hb11.1);have hJi:=hJ.2;have hol:=(show o.length=q+1 by rw[hJ.1,Da]);Sp (j<x.length) (λh12=>I (?_:j<x.length) (I (?_:q<=jk k t) (I (?_:(((jk k t) -q)+1)+j<k.length) (I (?_:((((jk k t) -q)+1)+j)+q<k.length) (I (?_:j+1<q+1) (I (?_:j+1<o.length) (I (?_:j+1<q+1) (I (?_:j+1<o.length) (I ((Tw hp0 hp1 hI.1 (by omega) (by omega) hJ.1 (by omega)).1:Bnd .rat (.n 4194304) ((o.getD (j+1) 0)+(((t-(k.getD ((((jk k t) -q)+1)+j) 0))/((k.getD (((((jk k t) -q)+1)+j)+q) 0) -(k.getD ((((jk k t) -q)+1)+j) 0)))*(x.getD j 0)))) (I (by first|omega|(rw[List.length_set];omega):j<q+1) (I (by first|omega|(rw[List.length_set];omega):j<(o.set (j+1) ((o.getD (j+1) 0)+(((t-(k.getD ((((jk k t) -q)+1)+j) 0))/((k.getD (((((jk k t) -q)+1)+j)+q) 0) -(k.getD ((((jk k t) -q)+1)+j) 0)))*(x.getD j 0)))).length) (I (?_:j<q+1) (I (by first|omega|(rw[List.length_set];omega):j<(o.set (j+1) ((o.getD (j+1) 0)+(((t-(k.getD ((((jk k t) -q)+1)+j) 0))/((k.getD (((((jk k t) -q)+1)+j)+q) 0) -(k.getD ((((jk k t) -q)+1)+j) 0)))*(x.getD j 0)))).length) (I ((Tw hp0 hp1 hI.1 (by omega) (by omega) hJ.1 (by omega)).2:Bnd .rat (.n 4194304) (((o.set (j+1) ((o.getD (j+1) 0)+(((t-(k.getD ((((jk k t) -q)+1)+j) 0))/((k.getD (((((jk k t) -q)+1)+j)+q) 0) -(k.getD ((((jk k t) -q)+1)+j) 0)))*(x.getD j 0)))).getD j 0)+((((1:Int):Rat) -((t-(k.getD ((((jk k t) -q)+1)+j) 0))/((k.getD (((((jk k t) -q)+1)+j)+q) 0) -(k.getD ((((jk k t) -q)+1)+j) 0))))*(x.getD j 0)))) (I (show(j+1)<=64 by omega:Bnd (.nat .i64) (.n 64) (j+1)) (q6q (⟨by rw[hJ.1];rfl,by omega⟩:((o.set (j+1) ((o.getD (j+1) 0)+(((t-(k.getD ((((jk k t) -q)+1)+j) 0))/((k.getD (((((jk k t) -q)+1)+j)+q) 0) -(k.getD ((((jk k t) -q)+1)+j) 0)))*(x.getD j 0)))).set j (((o.set (j+1) ((o.getD (j+1) 0)+(((t-(k.getD ((((jk k t) -q)+1)+j) 0))/((k.getD (((((jk k t) -q)+1)+j)+q) 0) -(k.getD ((((jk k t) -q)+1)+j) 0)))*(x.getD j 0)))).getD j 0)+((((1:Int):Rat) -((t-(k.getD ((((jk k t) -q)+1)+j) 0))/((k.getD (((((jk k t) -q)+1)+j)+q) 0) -(k.getD ((((jk k t) -q)+1)+j) 0))))*(x.getD j 0))))=pvN k (jk k t) t q x (j+1)/\(j+1)<=x.length) (?_:x.length-(j+1)<x.length-j))))))))))))))))) (λh13=>I (?_:q+1=o.length) (I (show(q+1)<=8 by omega:Bnd (.nat .i64) (.n 8) (q+1)) (q6q (⟨pv_s hI.1 hI.2.1 hJ.1 (by omega),by omega,by omega⟩:o=pv k (jk k t) t ((q+1) -1)/\1<=(q+1)/\(q+1)<=d.toNat+1) (?_:d.toNat+1-(q+1)<d.toNat+1-q))))))) (λh15=>I (zJ (by omega) (by omega):qK .sub .i64 ((jk k t:Nat):Int) d ((jk k t-d.toNat:Nat):Int)) (I (?_:jk k t-d.toNat<=1048576) (q6q (by rw[GU hp4]:jk k t-d.toNat=qU k d t-d.toNat) (q6q (q2a hp4 hO hI.1 (by omega):x=jc k d t) (GW hO:0=jv k t))))))))))))⟩<;>omega)
abbrev A8:Ctr Tryz.prog:=FI.c Wx
abbrev Spl:Type:=Int×List Rat×List F4
abbrev jm:Ty:= .pr (.int .i64) (.pr (.sl .rat) (.sl jB))
def hsN(ps:List F4)(l:List Rat)(f:Nat):Nat->F4
 |0=>(0,0,0,0)
 |n+1=>homS (hsN ps l f n) (l.getD n 0) (ps.getD (f+n) (0,0,0,0))
theorem VV:v7 d0=(0,0,0,0):=by
 unfold v7;simp only[Rat.mul_zero]
theorem OE(ps:List ju)(i:Nat):(ps.map v7).getD i (0,0,0,0)=v7 (ps.getD i d0):=by
 rw[q6E,q6E,List.getElem?_map]
 cases ps[i]? with
 |none=>exact VV.symm
 |some p=>rfl
theorem ON(ps:List ju)(l:List Rat)(f:Nat): ∀n,hsN (ps.map v7) l f n=homN ps l f n
 |0=>rfl
 |n+1=>by rw[hsN,homN,ON ps l f n,OE]
theorem Tb{ps:List F4}{l:List Rat}{m e:Nat}(hp: ∀p∈ps,Bnd jB (bF4 m) p)(hl: ∀v∈l,Bnd .rat (.n e) v)(f:Nat): ∀n,Bnd jB (bF4 (n*(e+m+1))) (hsN ps l f n)
 |0=>⟨qY _,qY _,qY _,qY _⟩
 |n+1=>by
  have h:=Tb hp hl f n
  have hh:Bnd jB (bF4 m) (ps.getD (f+n) (0,0,0,0)):=by
   by_cases hi:f+n<ps.length
   .exact hp _ (show ps.getD (f+n) (0,0,0,0)∈ps by rw[vq hi];exact List.getElem_mem hi)
   .have:ps.getD (f+n) (0,0,0,0)=(0,0,0,0):=by rw[q6E,q6J (by omega)];rfl
    rw[this];exact⟨qY _,qY _,qY _,qY _⟩
  have hx:Bnd .rat (.n e) (l.getD n 0):=w7 hl n;have e1:(n+1)*(e+m+1)=n*(e+m+1)+(e+m)+1:=by rw[q79];omega
  rw[e1];have s: ∀{a c:Rat},Bnd .rat (.n (n*(e+m+1))) a->Bnd .rat (.n m) c->Bnd .rat (.n (n*(e+m+1)+(e+m)+1)) (a+l.getD n 0*c):=λha hc=>AI ha (vH hx hc)
  exact⟨s h.1 hh.1,s h.2.1 hh.2.1,s h.2.2.1 hh.2.2.1,s h.2.2.2 hh.2.2.2⟩
structure SpO (s:Spl) (t:Rat):Prop where
 kb:Bnd (.sl .rat) (.s 64 (.n 4096)) s.2.1
 tb:Bnd .rat (.n 4096) t
 d0:0<=s.1
 d6:s.1<=6
 ip:IpO s.2.1 s.1.toNat
 pl:s.2.2.length+s.1.toNat+1=s.2.1.length
 pb: ∀p∈s.2.2,Bnd jB (bF4 524288) p
abbrev bvs(s:Spl)(t:Rat):List Rat:=jc s.2.1 s.1 t
def evS(s:Spl)(t:Rat):F4:=if ivO s.2.1 t then(0,0,0,0)else hsN s.2.2 (bvs s t) (qU s.2.1 s.1 t-s.1.toNat) (bvs s t).length
theorem OM{s:Spl}{t:Rat}(h:SpO s t){n f:Nat}(hn:n<=7):Bnd jB (bF4 33554432) (hsN s.2.2 (bvs s t) f n):=by
 refine Cr (Tb h.pb (Gv (λv hv=>h.kb.2 v hv) h.tb h.d6) _ _) ?_;have:=q7x (4194304+524288+1) hn;omega
theorem T5{s:Spl}{t:Rat}(h:SpO s t):Bnd jB (bF4 33554432) (evS s t):=by
 unfold evS;split
 .exact⟨qY _,qY _,qY _,qY _⟩
 .have:=E9 s.2.1 s.1 t
  have:=h.d6;exact OM h (show(jc s.2.1 s.1 t).length<=7 by omega)
theorem q4E{s:Spl}{t:Rat}(h:jv s.2.1 t≠0):(0,0,0,0)=evS s t:=by
 unfold jv at h;split at h
 .rename_i g;rw[evS,if_pos g]
 .exact absurd rfl h
theorem q4F{s:Spl}{t:Rat}(h: ¬jv s.2.1 t≠0){i:Nat}{o:F4}(ho:o=hsN s.2.2 (bvs s t) (qU s.2.1 s.1 t-s.1.toNat) i)(hi:i=(jc s.2.1 s.1 t).length):o=evS s t:=by rw[evS,if_neg (Ai h),ho,hi]
theorem q4U{k:List Rat}{t:Rat}(h:jv k t≠0):7=jv k t:=by
 unfold jv at h⊢;split at h
 .rename_i g;rw[if_pos g]
 .exact absurd rfl h
theorem MY{k:List Rat}{t:Rat}{d:Int}(h:IpO k d.toNat)(hO: ¬ivO k t):d.toNat<=qU k d t/\qU k d t+d.toNat+1<k.length:=by
 have:=ip_r h hO;rw[GU h]at this;exact this
abbrev X4:FI:=⟨104,[(.pr (.int .i64) (.pr (.sl .rat) (.sl (.pr .rat (.pr .rat (.pr .rat .rat)))))),.rat],[(.p (.n 8) (.p (.s 1048576 (.n 16384)) (.s 1048576 (.p (.n 524288) (.p (.n 524288) (.p (.n 524288) (.n 524288))))))),(.n 16384)],λz=>(λ(s:Int×List Rat×List (Rat×Rat×Rat×Rat))(t:Rat)=>[SpO s t]) z.1 z.2,λb z=>(λ(s:Int×List Rat×List (Rat×Rat×Rat×Rat))(t:Rat)=> .tup [.agg [.dt jB (bF4 33554432) (evS s t)],.one (.dt (.int .i64) (.n 7) (jv s.2.1 t))]) z.1 z.2⟩
theorem X5:X4.OK Tryz.prog:=qB hmix 66 Tryz.func104 rfl rfl (by decide) [(51,.c qA),(52,.c j8),(163,.c A8)] (λ(s:Int×List Rat×List (Rat×Rat×Rat×Rat))(t:Rat) b hx hp=>qc (qh (T5 (hp _ q6W))) (qc (qa (Bg _ t) rfl) qy)) (λ(s:Int×List Rat×List (Rat×Rat×Rat×Rat))(t:Rat) hx hp=>by
 have hp0:SpO s t:=hp _ (q6W)
 refine⟨.cond (.nil) (.cond (.dead) (.loop [.s 38 (.nat .i64) (.n 8),.r 6 (.pr .rat (.pr .rat (.pr .rat .rat))) (.p (.n 33554432) (.p (.n 33554432) (.p (.n 33554432) (.n 33554432))))] (λ((i,o):Nat×Rat×Rat×Rat×Rat)=>o=hsN s.2.2 (jc s.2.1 s.1 t) (qU s.2.1 s.1 t-s.1.toNat) i/\i<=(jc s.2.1 s.1 t).length) (λ((i,o):Nat×Rat×Rat×Rat×Rat)=>(jc s.2.1 s.1 t).length-i) (λ((i,o):Nat×Rat×Rat×Rat×Rat)=> .nil))),kcast (by kernel_rfl) (have hd0:=hp0.d0;have hd6:=hp0.d6;have hpl:=hp0.pl;I (hp0.kb:Bnd (.sl .rat) (.s 64 (.n 4096)) s.2.1) (I (hp0.tb:Bnd .rat (.n 4096) t) (I (?_:0<=s.1) (I (?_:s.1<=6) (I (hp0.ip:IpO s.2.1 s.1.toNat) (Sp (jv s.2.1 t≠0) (λh1=>q6q (q4E h1:(0,0,0,0)=evS s t) (q4U h1:7=jv s.2.1 t)) (λh2=>Sp (s.2.2.length<(qU s.2.1 s.1 t-s.1.toNat)+((jc s.2.1 s.1 t).length)) (λh3=>((by have hO:=Ai h2;have h1:=MY hp0.ip hO;have h2:=EP (d:=s.1) hO;omega):False)) (λh4=>have hO:=(Ai h2);have hiv:=(MY hp0.ip hO);have hbl:=(EP (d:=s.1) hO:(jc s.2.1 s.1 t).length=s.1.toNat+1);I (⟨rfl,q7G _⟩:(0,0,0,0)=hsN s.2.2 (jc s.2.1 s.1 t) (qU s.2.1 s.1 t-s.1.toNat) 0/\0<=(jc s.2.1 s.1 t).length) (λ(i:Nat)(o:Rat×Rat×Rat×Rat)(hb5:HB [.s 38 (.nat .i64) (.n 8),.r 6 (.pr .rat (.pr .rat (.pr .rat .rat))) (.p (.n 33554432) (.p (.n 33554432) (.p (.n 33554432) (.n 33554432))))] (i,o))(hI:o=hsN s.2.2 (jc s.2.1 s.1 t) (qU s.2.1 s.1 t-s.1.toNat) i/\i<=(jc s.2.1 s.1 t).length)=>have hv8:=(show i<=8 from hb5.1);have hI1:=hI.2;Sp (i<(jc s.2.1 s.1 t).length) (λh6=>I (?_:i<(jc s.2.1 s.1 t).length) (I (?_:(qU s.2.1 s.1 t-s.1.toNat)+i<s.2.2.length) (I (?_:(qU s.2.1 s.1 t-s.1.toNat)+i<s.2.2.length) (I (?_:(qU s.2.1 s.1 t-s.1.toNat)+i<s.2.2.length) (I (?_:(qU s.2.1 s.1 t-s.1.toNat)+i<s.2.2.length) (I ((show i+1<=8 by omega):Bnd (.nat .i64) (.n 8) (i+1)) (I ((by rw[hI.1];exact OM hp0 (show i+1<=7 by omega)):Bnd (.pr .rat (.pr .rat (.pr .rat .rat))) (.p (.n 33554432) (.p (.n 33554432) (.p (.n 33554432) (.n 33554432)))) (o.1+(((jc s.2.1 s.1 t).getD i 0)*((s.2.2.getD ((qU s.2.1 s.1 t-s.1.toNat)+i) (0,(0,(0,0)))).1)),o.2.1+(((jc s.2.1 s.1 t).getD i 0)*(((s.2.2.getD ((qU s.2.1 s.1 t-s.1.toNat)+i) (0,(0,(0,0)))).2).1)),o.2.2.1+(((jc s.2.1 s.1 t).getD i 0)*((((s.2.2.getD ((qU s.2.1 s.1 t-s.1.toNat)+i) (0,(0,(0,0)))).2).2).1)),o.2.2.2+(((jc s.2.1 s.1 t).getD i 0)*((((s.2.2.getD ((qU s.2.1 s.1 t-s.1.toNat)+i) (0,(0,(0,0)))).2).2).2)))) (q6q (⟨by rw[hI.1];rfl,by omega⟩:(o.1+(((jc s.2.1 s.1 t).getD i 0)*((s.2.2.getD ((qU s.2.1 s.1 t-s.1.toNat)+i) (0,(0,(0,0)))).1)),o.2.1+(((jc s.2.1 s.1 t).getD i 0)*(((s.2.2.getD ((qU s.2.1 s.1 t-s.1.toNat)+i) (0,(0,(0,0)))).2).1)),o.2.2.1+(((jc s.2.1 s.1 t).getD i 0)*((((s.2.2.getD ((qU s.2.1 s.1 t-s.1.toNat)+i) (0,(0,(0,0)))).2).2).1)),o.2.2.2+(((jc s.2.1 s.1 t).getD i 0)*((((s.2.2.getD ((qU s.2.1 s.1 t-s.1.toNat)+i) (0,(0,(0,0)))).2).2).2)))=hsN s.2.2 (jc s.2.1 s.1 t) (qU s.2.1 s.1 t-s.1.toNat) (i+1)/\(i+1)<=(jc s.2.1 s.1 t).length) (?_:(jc s.2.1 s.1 t).length-(i+1)<(jc s.2.1 s.1 t).length-i))))))))) (λh7=>q6q (q4F h2 hI.1 (by omega):o=evS s t) (GW (Ai h2):0=jv s.2.1 t)))))))))))⟩<;>omega)
abbrev AB:Ctr Tryz.prog:=FI.c X5
theorem FR(a w:Rat):a/w=((1:Int):Rat)/w*a:=by
 have e:((1:Int):Rat)=1:=rfl;rw[e,Rat.div_def,Rat.div_def,Rat.one_mul,Rat.mul_comm]
theorem fp_e(h:F4):(((h.1/h.2.2.2,h.2.1/h.2.2.2,h.2.2.1/h.2.2.2),h.2.2.2+0):ju)=jw h:=by
 rw[FR h.1,FR h.2.1,FR h.2.2.1,Rat.add_zero];rfl
def spC(c:ze):Spl:=(c.1,c.2.1,c.2.2.map v7)
theorem map_s{ps:List ju}{i:Nat}(hi:i<ps.length){o:List F4}(h:o=(ps.take i).map v7):o++[v7 (ps.getD i ((0,0,0),0))]=(ps.take (i+1)).map v7:=by
 rw[h,wT (d:=((0,0,0),0)) hi,List.map_append];rfl
theorem q3a{c:ze}{i:Nat}{o:List F4}(h:o=(c.2.2.take i).map v7)(hi: ¬i<c.2.2.length):(c.1,c.2.1,o)=spC c:=by
 rw[h,q75 (by omega)];rfl
theorem q39{ps:List ju}{m:Nat}(h: ∀p∈ps,Bnd (.pr jj .rat) (.p (bV3 m) (.n m)) p): ∀q∈ps.map v7,Bnd jB (bF4 (2*m)) q:=by
 intro q hq;obtain⟨p,hp,rfl⟩:=List.mem_map.1 hq;exact Cr (F8 (h p hp)) (by simp only[Bd.mx];omega)
theorem PQ{c:ze}{t:Rat}(h:EvC c t)(hi:IpO c.2.1 c.1.toNat):SpO (spC c) t:=
 ⟨h.kb,h.tb,h.d0,h.d6,hi,by show(c.2.2.map v7).length+_+1=_;rw[q6P];exact h.pl,λq hq=>Cr (q39 h.pb q hq) (by omega)⟩
theorem T6(c:ze)(t:Rat):evS (spC c) t=if ivO c.2.1 t then(0,0,0,0)else homV c t:=by
 show(if ivO c.2.1 t then((0,0,0,0):F4)else hsN (c.2.2.map v7) (jc c.2.1 c.1 t) (qU c.2.1 c.1 t-c.1.toNat) (jc c.2.1 c.1 t).length)=_;rw[ON];rfl
theorem q60{c:ze}{b:Bd}(h:Bnd AU b c):Bnd jm (.p b.l (.p b.r.l (.s b.r.r.len (bF4 (2*b.r.r.e.mx))))) (spC c):=by
 have h3:=h.pr.2.pr.2;refine⟨h.pr.1,h.pr.2.pr.1,by show(c.2.2.map v7).length<=_;rw[q6P];exact h3.sl.1,λq hq=>?_⟩;obtain⟨p,hp,rfl⟩:=List.mem_map.1 hq;exact F8 (h3.slm' _ hp)
theorem q4G{c:ze}{t:Rat}(h: ¬jv c.2.1 t≠0):(jw (evS (spC c) t)).1=evV c t:=by
 rw[T6,if_neg (Ai h),T8 h]
section
theorem q0w{x y:Rat}:j5 x y<0↔x<y:=by
 unfold j5;split
 .rename_i h;exact⟨λ_=>h,λ_=>by decide⟩
 .rename_i h;split
  .exact⟨λh=>absurd h (by decide),λg=>absurd g h⟩
  .exact⟨λh=>absurd h (by decide),λg=>absurd g h⟩
section
variable (a b c m:V3) (w t:Rat)
end
end
section
section
variable {a b c m:V3} {w t:Rat}
end
end
section
def fidx(p:Nat->Bool):Nat->Nat->Int
 |_,0=> -1
 |i,k+1=>if p i=true then(i:Int)else fidx p (i+1) k
theorem GM(p:Nat->Bool): ∀(k i:Nat),-1<=fidx p i k/\fidx p i k<=i+k
 |0,i=>by rw[fidx];omega
 |k+1,i=>by
  have:=GM p k (i+1);rw[fidx];split<;>omega
theorem HT{p:Nat->Bool}{i n:Nat}(h:fidx p i (n-i)=fidx p 0 n)(hi:i<n)(hp: ¬p i=true):fidx p (i+1) (n-(i+1))=fidx p 0 n:=by
 rw[show n-i=(n-(i+1))+1 by omega,fidx,if_neg hp]at h;exact h
theorem FW{p:Nat->Bool}{i n:Nat}(h:fidx p i (n-i)=fidx p 0 n)(hi:i<n)(hp:p i=true):(i:Int)=fidx p 0 n:=by
 rw[show n-i=(n-(i+1))+1 by omega,fidx,if_pos hp]at h;exact h
theorem FU{p:Nat->Bool}{i n:Nat}(h:fidx p i (n-i)=fidx p 0 n)(hi: ¬i<n): -1=fidx p 0 n:=by
 rw[show n-i=0 by omega,fidx]at h;exact h
theorem EW{p:Nat->Bool}: ∀{k i:Nat},0<=fidx p i k↔ ∃j,i<=j/\j<i+k/\p j=true
 |0,i=>by rw[fidx];exact⟨λh=>absurd h (by decide),λ⟨j,h1,h2,_⟩=>by omega⟩
 |k+1,i=>by
  rw[fidx];split
  .rename_i h;exact⟨λ_=>⟨i,q7j _,by omega,h⟩,λ_=>by omega⟩
  .rename_i h
   rw[EW];constructor
   .rintro⟨j,h1,h2,h3⟩;exact⟨j,by omega,by omega,h3⟩
   .rintro⟨j,h1,h2,h3⟩
    rcases Nat.eq_or_lt_of_le h1 with e|e
    .subst e;exact absurd h3 h
    .exact⟨j,e,by omega,h3⟩
def unqN{α:Type}(d:α)(e:α->α->Bool)(l:List α):Nat->List α
 |0=>[]
 |n+1=>if n=0\/ ¬e (l.getD n d) (l.getD (n-1) d)=true then unqN d e l n++[l.getD n d]else unqN d e l n
section
variable {α:Type} {d:α} {e:α->α->Bool} {l:List α}
structure CmO (d:α) (e:α->α->Bool) (l:List α) (i:Nat):Prop where
 h:unqN d e l i=l.take i
 h1:1<=i
 hl:i<=l.length
theorem CmO.start(h:2<=l.length):CmO d e l 1:=by
 refine⟨?_,q7j 1,by omega⟩;rw[unqN,if_pos (.inl rfl),unqN,wT (d:=d) (by omega)];simp
theorem CmO.step{i:Nat}(h:CmO d e l i)(hi:i<l.length)(hp: ¬e (l.getD i d) (l.getD (i-1) d)=true):CmO d e l (i+1):=
 ⟨by rw[unqN,if_pos (.inr hp),h.h,wT (d:=d) hi],by omega,by omega⟩
theorem CmO.fin{i:Nat}(h:CmO d e l i)(hi: ¬i<l.length):unqN d e l l.length=l:=by
 have:=h.h;have e1:i=l.length:=by have:=h.hl;omega
 rw[e1,q74]at this;exact this
structure CmI (d:α) (e:α->α->Bool) (l m:List α) (k i:Nat):Prop where
 hl:m.length=l.length
 hk:k+1<=i
 hi:i<=l.length
 ht:m.take k=unqN d e l i
 hd: ∀j,i<=j+1->m.getD j d=l.getD j d
theorem CmI.start{i:Nat}(h:CmO d e l i)(hi:i<l.length)(hp:e (l.getD i d) (l.getD (i-1) d)=true):CmI d e l l i (i+1):=
 ⟨rfl,q7j _,hi,by rw[unqN,if_neg (by rintro(h2|h2);exact absurd h.h1 (by omega);exact h2 hp),h.h],λ_ _=>rfl⟩
theorem X3{m:List α}{k j:Nat}{v:α}(h:k≠j):(m.set k v).getD j d=m.getD j d:=by
 rw[q6E,List.getElem?_set_ne h,<-q6E]
theorem CmI.go{m:List α}{k i:Nat}(h:CmI d e l m k i)(hi:i<l.length)(hp: ¬e (m.getD i d) (m.getD (i-1) d)=true):CmI d e l (m.set k (m.getD i d)) (k+1) (i+1):=by
 have hk:=h.hk;have e1:=h.hd i (by omega);have e2:=h.hd (i-1) (by omega);rw[e1,e2]at hp;refine⟨by rw[List.length_set,h.hl],by omega,by omega,?_,λj hj=>?_⟩
 .rw[KR (by rw[h.hl];omega),h.ht,unqN,if_pos (.inr hp),e1]
 .rw[X3 (by omega)];exact h.hd j (by omega)
theorem CmI.stay{m:List α}{k i:Nat}(h:CmI d e l m k i)(hi:i<l.length)(hp:e (m.getD i d) (m.getD (i-1) d)=true):CmI d e l m k (i+1):=by
 have hk:=h.hk;rw[h.hd i (by omega),h.hd (i-1) (by omega)]at hp;exact⟨h.hl,by omega,by omega,by rw[h.ht,unqN,if_neg (by rintro(h2|h2);omega;exact h2 hp)],λj hj=>h.hd j (by omega)⟩
theorem CmI.fin{m:List α}{k i:Nat}(h:CmI d e l m k i)(hi:i=l.length):m.take k=unqN d e l l.length/\k=(unqN d e l l.length).length/\k<l.length:=by
 have hk:=h.hk;subst hi;have ht:=h.ht;refine⟨ht,?_,by omega⟩;rw[<-ht,q6R,h.hl];omega
end
section
variable {α:Type} {d:α} {e:α->α->Bool} {l:List α}
end
section
variable {α:Type} (d:α) (c:α->α->Int)
def posR(x:α)(p:List α):Nat->Nat
 |0=>0
 |j+1=>if c x (p.getD j d)<0 then posR x p j else j+1
theorem Me(x:α)(p:List α): ∀j,posR d c x p j<=j
 |0=>q7j 0
 |j+1=>by
  unfold posR;split
  .exact Nat.le_succ_of_le (Me x p j)
  .exact q7j _
def insR(x:α)(p:List α):List α:=p.take (posR d c x p p.length)++x::p.drop (posR d c x p p.length)
theorem QU(x:α)(p:List α):(insR d c x p).length=p.length+1:=by
 have:=Me d c x p p.length;unfold insR;simp only[q6M,q6R,q6N,q6O];omega
def Ak(l:List α):Nat->List α
 |0=>[]
 |i+1=>insR d c (l.getD i d) (Ak l i)
theorem ED(l:List α): ∀i,(Ak d c l i).length=i
 |0=>rfl
 |i+1=>by rw[Ak,QU,ED l i]
structure SoO (l m:List α) (i:Nat):Prop where
 h:m=Ak d c l i++l.drop i
 hi:i<=l.length
structure SoI (l m:List α) (i j:Nat):Prop where
 h:m=((Ak d c l i).take j++l.getD i d::(Ak d c l i).drop j)++l.drop (i+1)
 hi:i<l.length
 hj:j<=i
 hp:posR d c (l.getD i d) (Ak d c l i) j=posR d c (l.getD i d) (Ak d c l i) i
variable {d c} {l m:List α} {i j:Nat}
theorem SoO.inner(h:SoO d c l m i)(hi:i<l.length):SoI d c l m i i:=by
 have hl:=ED d c l i;refine⟨?_,hi,q7j _,rfl⟩;have e1:(Ak d c l i).take i=Ak d c l i:=q75 (by omega);have e2:(Ak d c l i).drop i=[]:=q6A (by omega);rw[h.h,e1,e2,q6y,List.drop_eq_getElem_cons hi,vq hi];rfl
theorem SoI.at_(h:SoI d c l m i j):m.getD j d=l.getD i d:=by
 have hl:=ED d c l i;have h2:=h.hj
 rw[h.h,q6E,List.getElem?_append_left (by simp only[q6M,q6R,q6N];omega),List.getElem?_append_right (by simp only[q6R];omega)];simp only[q6R,show j-min j (Ak d c l i).length=0 by omega];rfl
end
end
theorem PZ{x:Rat}(h:(limbs x.num.natAbs).length=0):(denL x.den).length=0:=Nat.eq_zero_of_not_pos λh2=>Gf h h2
theorem Og{d:Nat}(h: ¬(denL d).length=0):denL d=limbs d:=BA h
theorem NR(x:Rat):bl (Nat.gcd x.num.natAbs x.den)=1:=by rw[Di];decide+kernel
theorem Gb{k:List Rat}: ∀{n:Nat},vF k n=true↔ ∀j,1<=j->j<n-> ¬j5 (k.getD j 0) (k.getD (j-1) 0)<0
 |0=>⟨λ_ j _ h=>by omega,λ_=>rfl⟩
 |n+1=>by
  rw[vF,q6s,Gb,Bool.or_eq_true,decide_eq_true_eq,decide_eq_true_eq];constructor
  .rintro⟨h1,h2⟩ j hj hjn
   rcases q7n j n with h|h
   .exact h1 j hj h
   .have:j=n:=by omega
    subst this;exact h2.resolve_left (by omega)
  .intro h
   refine⟨λj hj hjn=>h j hj (by omega),?_⟩;by_cases e:n=0
   .exact .inl e
   .exact .inr (h n (by omega) (by omega))
def SrtI(k:List Rat)(i:Nat):Prop:= ∀j,i<j->j<k.length-> ¬j5 (k.getD j 0) (k.getD (j-1) 0)<0
theorem SrtI.start(k:List Rat):SrtI k (k.length-1):=λj h h2=>by omega
theorem SrtI.step{k:List Rat}{i:Nat}(h:SrtI k i)(hp: ¬j5 (k.getD i 0) (k.getD (i-1) 0)<0):SrtI k (i-1):=λj h1 h2=>by
 rcases Nat.eq_or_lt_of_le (show i<=j by omega)with e|e
 .subst e;exact hp
 .exact h j e h2
theorem SrtI.fin{k:List Rat}{i:Nat}(h:SrtI k i)(hi: ¬0<i):vF k k.length=true:=Gb.2 λj h1 h2=>h j (by omega) h2
theorem Gd(k:List Rat): ∀n,unqN 0 (λx y=>decide (x=y)) k n=jG k n
 |0=>rfl
 |n+1=>by
  rw[unqN,jG,Gd k n];by_cases h:n=0\/k.getD n 0≠k.getD (n-1) 0
  .rw[if_pos h,if_pos (h.imp id λh=>by simpa using h)]
  .rw[if_neg h,if_neg (λh2=>h (h2.imp id λh=>by simpa using h))]
abbrev S3:FI:=⟨81,[.rat],[(.n 68719476736)],λ_=>[],λb z=> .c (.one (.vl (.bool true)))⟩
theorem S4:S3.OK Tryz.prog:=qB hmix 52 Tryz.func81 rfl rfl (by decide) [(142,.c Rl),(143,.c Gs),(144,.c gcd_c)] (λ(x:Rat) b hx hp=>AX rfl) (λ(x:Rat) hx hp=>by
 have hx0:Bnd .rat (.n 68719476736) x:=hx;have hx0:Bnd .rat (.n 68719476736) x:=hx
 refine⟨.cond (.cond (.dead) (.cond (.cond (.nil) (.dead)) (.cond (.nil) (.h 5 8 (.mag x.den 68719476737) (.nil))))) (.cond (.cond (.nil) (.dead)) (.cond (.nil) (.h 5 8 (.mag x.den 68719476737) (.nil)))),kcast (by kernel_rfl) (I (Aq _:(limbs x.num.natAbs).length=0\/(limbs x.num.natAbs).getD ((limbs x.num.natAbs).length-1) 0≠0) (I (ID x.den:(denL x.den).length=0\/(denL x.den).getD ((denL x.den).length-1) 0≠0) (Sp ((denL x.den).length=1) (λh1=>I (?_:0<(denL x.den).length) (Sp ((denL x.den).getD 0 0=1) (λh2=>(Ms h1 h2:False)) (λh3=>Sp ((limbs x.num.natAbs).length=0) (λh4=>Sp (¬(x.num<0)) (λh5=>(PZ h4:(denL x.den).length=0)) (λh6=>(Fu h4 (Decidable.of_not_not h6):False))) (λh7=>Sp ((denL x.den).length=0) (λh8=>trivial) (λh9=>I (Og (by assumption):denL x.den=limbs x.den) (I (A4 hx0.2:qJ x.den 68719476737) ((NR x:bl (Nat.gcd x.num.natAbs x.den)=1)))))))) (λh10=>Sp ((limbs x.num.natAbs).length=0) (λh11=>Sp (¬(x.num<0)) (λh12=>(PZ h11:(denL x.den).length=0)) (λh13=>(Fu h11 (Decidable.of_not_not h13):False))) (λh14=>Sp ((denL x.den).length=0) (λh15=>trivial) (λh16=>I (Og (by assumption):denL x.den=limbs x.den) (I (A4 hx0.2:qJ x.den 68719476737) ((NR x:bl (Nat.gcd x.num.natAbs x.den)=1)))))))))⟩<;>omega)
abbrev KQ:Ctr Tryz.prog:=FI.c S4
abbrev VA:FI:=⟨145,[(.sl .rat),(.fn 47)],[(.s 1048576 (.n 68719476736)),.u],λz=>(λ(k:List Rat)(u:Unit)=>[0<k.length]) z.1 z.2,λb z=>(λ(k:List Rat)(u:Unit)=> .c (.one (.dt .bool .u (vF k k.length)))) z.1 z.2⟩
theorem VB:VA.OK Tryz.prog:=qB hmix 25 Tryz.func145 rfl rfl (by decide) [(47,.c jQ)] (λ(k:List Rat)(u:Unit) b hx hp=>qa trivial rfl) (λ(k:List Rat)(u:Unit) hx hp=>by
 have hl0:k.length<=1048576:=hx.1.1;have hp0:0<k.length:=hp _ (q6W)
 refine⟨.h 1 2 (.i .sub) (.loop [.s 5 (.nat .i64) (.n 1048576)] (λ(i:Nat)=>SrtI k i/\i<k.length) (λ(i:Nat)=>i) (λ(i:Nat)=> .cond (.h 4 7 (.i .sub) (.cond (.nil) (.h 3 1 (.i .sub) (.nil)))) (.nil))),kcast (by kernel_rfl) (I (?_:1<=k.length) (I (⟨SrtI.start k,by omega⟩:SrtI k (k.length-1)/\(k.length-1)<k.length) (λ(i:Nat)(hb1:HB [.s 5 (.nat .i64) (.n 1048576)] i)(hI:SrtI k i/\i<k.length)=>have hv6:=(show i<=1048576 from hb1);have hI1:=hI.2;Sp (0<i) (λh2=>I (?_:i<k.length) (I (?_:1<=i) (I (?_:i-1<k.length) (Sp (j5 (k.getD i 0) (k.getD (i-1) 0)<0) (λh3=>((Mq (by omega) h3 hI1).symm:false=vF k k.length)) (λh4=>I (?_:1<=i) (q6q (⟨hI.1.step h4,by omega⟩:SrtI k (i-1)/\(i-1)<k.length) (?_:(i-1)<i))))))) (λh5=>((hI.1.fin (by omega)).symm:true=vF k k.length)))))⟩<;>omega)
abbrev Vz:Ctr Tryz.prog:=FI.c VB
abbrev R4:FI:=⟨148,[(.sl .rat),.rat],[(.s 1048576 (.n 68719476736)),(.n 68719476736)],λ_=>[],λb z=>(λ(k:List Rat)(t:Rat)=> .c (.one (.dt (.nat .i64) (.n (b0 b).len) (je k t k.length)))) z.1 z.2⟩
theorem R5:R4.OK Tryz.prog:=qB hmix 21 Tryz.func148 rfl rfl (by decide) [(146,.c AA)] (λ(k:List Rat)(t:Rat) b hx hp=>qa (show je k t k.length<=(b0 b).len from q7k (By k t _) (Bnds.h2 hx).1.slm.1) rfl) (λ(k:List Rat)(t:Rat) hx hp=>by
 have hl0:k.length<=1048576:=hx.1.1
 refine⟨.loop [.s 10 (.nat .i64) (.n 1048576),.s 5 (.nat .i64) (.n 1048576)] (λ((i,m):Nat×Nat)=>m=je k t i/\i<=k.length) (λ((i,m):Nat×Nat)=>k.length-i) (λ((i,m):Nat×Nat)=> .nil),kcast (by kernel_rfl) (I (⟨rfl,q7G _⟩:0=je k t 0/\0<=k.length) (λ(i:Nat)(m:Nat)(hb1:HB [.s 10 (.nat .i64) (.n 1048576),.s 5 (.nat .i64) (.n 1048576)] (i,m))(hI:m=je k t i/\i<=k.length)=>have hv6:=(show i<=1048576 from hb1.1);have hv7:=(show m<=1048576 from hb1.2);have hIi:=hI.2;have hIl:=(show m<=i from hI.1▸By k t i);Sp (i<k.length) (λh2=>I (?_:i<k.length) (Sp (decide ((k.getD i 0)=t)=true) (λh3=>I (show(i+1)<=1048576 by omega:Bnd (.nat .i64) (.n 1048576) (i+1)) (I (show(m+1)<=1048576 by omega:Bnd (.nat .i64) (.n 1048576) (m+1)) (q6q (⟨by rw[je,if_pos (yd h3),hI.1],by omega⟩:(m+1)=je k t (i+1)/\(i+1)<=k.length) (?_:k.length-(i+1)<k.length-i)))) (λh4=>I (show(i+1)<=1048576 by omega:Bnd (.nat .i64) (.n 1048576) (i+1)) (q6q (⟨by rw[je,if_neg (yd' h4),hI.1],by omega⟩:m=je k t (i+1)/\(i+1)<=k.length) (?_:k.length-(i+1)<k.length-i))))) (λh5=>(by rw[hI.1,show i=k.length by omega]:m=je k t k.length))))⟩<;>omega)
abbrev R3:Ctr Tryz.prog:=FI.c R5
abbrev QY:FI:=⟨149,[(.sl .rat),(.int .i64)],[(.s 1048576 (.n 68719476736)),(.n 1099511627776)],λ_=>[],λb z=>(λ(k:List Rat)(d:Int)=> .c (.one (.dt (.int .i64) (.n ((b0 b).len+(b1 b).nb+1)) ((k.length:Int) -d-1)))) z.1 z.2⟩
theorem R0:QY.OK Tryz.prog:=qB hmix 10 Tryz.func149 rfl rfl (by decide) [] (λ(k:List Rat)(d:Int) b hx hp=>qa (show Int.natAbs ((k.length:Int) -d-1)<=(b0 b).len+(b1 b).nb+1 from by have h1:=(Bnds.h2 hx).1.slm.1;have h2:=(Bnds.h2 hx).2.int;omega) rfl) (λ(k:List Rat)(d:Int) hx hp=>by
 have hl0:k.length<=1048576:=hx.1.1;have hx1:Int.natAbs d<=1099511627776:=hx.2
 refine⟨.nil,kcast (by kernel_rfl) ((?_:(((k.length:Nat):Int) -d) -1=((k.length:Nat):Int) -d-1))⟩<;>omega)
abbrev j6:Ctr Tryz.prog:=FI.c R0
abbrev OU:FO:=⟨193,[(.sl .rat)],[(.s 1048576 (.n 34359738368))],λ_=>[],λk b z=>(λ(q:List Rat)=> .c (.one (.gs k (q.length) 3 ((b0 b).len)))) z,λb z=>(λ(q:List Rat)=> .gro .rat ((b0 b).e) (q)) z⟩
theorem OV:OU.OK Tryz.prog:=mkO hmix 23 90004 Tryz.func193 rfl rfl (by decide) [(51,.c qA)] (λ_=>rfl) (λ_ _ _=>rfl) (λ_ _=>rfl) (λ_ _ _=>⟨rfl,rfl⟩) (λ(q:List Rat) k b hx hp=>⟨qa (Bnds.h1 hx).sl.1 rfl,(Bnds.h1 hx).sl.2⟩) (λ(q:List Rat) hx hp=>by
 have hl0:q.length<=1048576:=hx.1
 refine bodyO.g (.h 1 2 (.mk (.gro .rat (.n 68719476736))) (.loop [.s 11 (.nat .i64) (.n 1048576),.g 3 90004 .rat (.n 68719476736) 1048576] (λ((i,o):Nat×List Rat)=>o=q.take i/\i<=q.length) (λ((i,o):Nat×List Rat)=>q.length-i) (λ((i,o):Nat×List Rat)=> .cond (.h 5 4 (.mk (.im .rat (.n 68719476736))) (.nil)) (.nil)))) (kcast (by kernel_rfl) (I (rfl:0=([]:List Rat).length) (I (⟨rfl,q7G _⟩:([]:List Rat)=q.take 0/\0<=q.length) (λ(i:Nat)(o:List Rat)(hb1:HB [.s 11 (.nat .i64) (.n 1048576),.g 3 90004 .rat (.n 68719476736) 1048576] (i,o))(hI:o=q.take i/\i<=q.length)=>have hv4:=(show i<=1048576 from hb1.1);have hv5:=(show o.length<=1048576 from hb1.2.1);have hIi:=hI.2;have hol:=(show o.length=i from by rw[hI.1,q6R];omega);Sp (i<q.length) (λh2=>I (?_:i<q.length) (I (?_:o.length=o.length) (I (show(i+1)<=1048576 by omega:Bnd (.nat .i64) (.n 1048576) (i+1)) (I (by(try simp only[q6M,q6N,q6Q])<;>omega:o.length+[(q.getD i 0)+0].length=(o++[(q.getD i 0)+0]).length) (I (by(try simp only[q6M,q6N,q6Q])<;>omega:o.length+[(q.getD i 0)+0].length<=1048576) (q6q (⟨by rw[hI.1,Rat.add_zero,wT (d:=0) (by omega)],by omega⟩:(o++[(q.getD i 0)+0])=q.take (i+1)/\(i+1)<=q.length) (?_:q.length-(i+1)<q.length-i))))))) (λh3=>q6q (by rw[hI.1,q75 (by omega)]:o=q) ((?_:o.length=q.length)))))))<;>omega)
abbrev OT:CtrO Tryz.prog:=FO.c OV
abbrev eqR:Rat->Rat->Bool:=λx y=>decide (x=y)
theorem Qu{t:Ty}{l:List t.den}{lo n:Nat}(h:lo+n<=l.length):(clrL t l lo n).length=l.length:=by
 unfold clrL;simp only[q6M,q6R,List.length_replicate,q6O];omega
def unqL(l:List Rat):List Rat:=dst l++List.replicate (l.length-(dst l).length) 0
theorem Kd(l:List Rat):(dst l).length<=l.length:=An l _
theorem Sm(l:List Rat):(unqL l).length=l.length:=by
 have:=Kd l;unfold unqL;simp only[q6M,List.length_replicate];omega
theorem PW(l:List Rat):(unqL l).take (dst l).length=dst l:=by unfold unqL;simp
theorem J0{l:List Rat}(h:dst l=l):l=unqL l:=by unfold unqL;rw[h];simp
theorem q3m{l:List Rat}{b:Bd}(h: ∀u∈l,Bnd .rat b u)(hb: ∀m,b= .n m->True)(h0:Bnd .rat b 0): ∀u∈unqL l,Bnd .rat b u:=λu hu=>by
 rcases q6T.1 hu with hu|hu
 .exact h u (Dx (q7j _) u hu)
 .rw[List.eq_of_mem_replicate hu];exact h0
theorem IE{l:List Rat}(h:l.length<2):dst l=l:=by
 match l,h with
 |[],_=>rfl
 |[x],_=>rfl
theorem CmO.dst{l:List Rat}{i:Nat}(h:CmO 0 eqR l i)(hi: ¬i<l.length):Sx.dst l=l:=by
 have:=h.fin hi
 rwa [Gd]at this
theorem CmI.dst{l m:List Rat}{k i n:Nat}(h:CmI 0 eqR l m k i)(hi:i=l.length)(hn:n=l.length):clrL .rat m k (n-k)=unqL l/\k=(Sx.dst l).length:=by
 obtain⟨h1,h2,h3⟩:=h.fin hi;rw[Gd]at h1 h2;refine⟨?_,h2⟩;unfold clrL unqL;have hl:=h.hl;rw[h1,q6A (by show m.length<=_;omega),List.append_nil,hn,<-h2];rfl
def numN(ps:List ju):Nat->List Rat
 |0=>[]
 |n+1=>numN ps n++[(ps.getD n d0).1.1,(ps.getD n d0).1.2.1,(ps.getD n d0).1.2.2,(ps.getD n d0).2]
theorem G3(ps:List ju): ∀n,(numN ps n).length=4*n
 |0=>rfl
 |n+1=>by simp only[numN,q6M,G3 ps n,q6N,q6Q];omega
theorem Pd{ps:List ju}{b:Bd}(h: ∀p∈ps,Bnd (.pr jj .rat) b p): ∀n,n<=ps.length-> ∀v∈numN ps n,Bnd .rat (.n b.mx) v
 |0,_,v,hv=>by cases hv
 |n+1,hn,v,hv=>by
  rcases q6T.1 hv with hv|hv
  .exact Pd h n (by omega) v hv
  .have g:=Bnd.pole (h _ (show ps.getD n d0∈ps by rw[vq (by omega)];exact List.getElem_mem _))
   simp only[q6U,q72,or_false]at hv;rcases hv with rfl|rfl|rfl|rfl
   .exact g.1.1
   .exact g.1.2.1
   .exact g.1.2.2
   .exact g.2
abbrev N0:FV:=⟨192,true,.rat,(.n 68719476736),1048576,[(.fn 146)],[.u],λl lo n cap z=>[n=l.length],λk b l lo n cap z=> .c (.one (.gs k (dst l).length 3 1048576)),λl lo n cap z=>unqL l⟩
theorem N1:N0.OK Tryz.prog:=mkSl hmix 66 Tryz.func192 rfl rfl (by decide) [(146,.c AA)] (λ_=>rfl) (λ_ _ _ _ _=>rfl) (λ_ _ _ _ _ _ _=>rfl) (λ_ _ _ _ _ _=>rfl) (λ(l:List Rat)(lo n cap:Nat)(u:Unit) k b hx hs hn(hm:n<=1048576) hp=>⟨qa (show(dst l).length<=1048576 from by have:=Kd l;have h0:=hp _ q6W;omega) rfl,q3m hs (λ_ _=>trivial) (qY _)⟩) (λ(l:List Rat)(lo n cap:Nat)(u:Unit) hs hx hn(hm:n<=1048576) hp=>by
 have hp0:n=l.length:=hp _ (q6W)
 refine⟨.cond (.nil) (.loop [.s 5 (.nat .i64) (.n 1048576),.bk 100000 .rat (.n 68719476736)] (λ((f,m0):Nat×List Rat)=>m0=l/\CmO 0 eqR m0 f) (λ((f,m0):Nat×List Rat)=>n-f) (λ((f,m0):Nat×List Rat)=> .cond (.h 6 7 (.i .sub) (.cond (.loop [.s 7 (.nat .i64) (.n 1048576),.s 5 (.nat .i64) (.n 1048576),.bk 100000 .rat (.n 68719476736)] (λ((q,j,m):Nat×Nat×List Rat)=>CmI 0 eqR l m j (f+q)/\1<=q) (λ((q,j,m):Nat×Nat×List Rat)=>n-f-q) (λ((q,j,m):Nat×Nat×List Rat)=> .cond (.h 11 7 (.i .sub) (.nil)) (.nil))) (.nil))) (.nil))),kcast (by kernel_rfl) (Sp (n<2) (λh1=>q6q (J0 (IE (by omega)):l=unqL l) ((by rw[IE (by omega)];exact hp0:n=(dst l).length))) (λh2=>I (⟨rfl,CmO.start (by omega)⟩:l=l/\CmO 0 eqR l 1) (λ(f:Nat)(m0:List Rat)(hb3:HB [.s 5 (.nat .i64) (.n 1048576),.bk 100000 .rat (.n 68719476736)] (f,m0))(hI:m0=l/\CmO 0 eqR m0 f)=>have hv15:=(show f<=1048576 from hb3.1);have hml:=(show m0.length=n from by rw[hI.1];exact hp0.symm);have hf1:=hI.2.h1;have hf2:=hI.2.hl;Sp (f<n) (λh4=>I (?_:f<n) (I (?_:f<m0.length) (I (?_:1<=f) (I (?_:f-1<n) (I (?_:f-1<m0.length) (Sp (decide ((m0.getD f 0)=(m0.getD (f-1) 0))=true) (λh5=>I (?_:f<=n) (I (?_:n<=m0.length) (I (⟨by have h:=CmI.start hI.2 (by omega) h5;have e:=hI.1;subst e;exact h,q7j 1⟩:CmI 0 eqR l m0 f (f+1)/\1<=1) (λ(q:Nat)(j:Nat)(m:List Rat)(hb6:HB [.s 7 (.nat .i64) (.n 1048576),.s 5 (.nat .i64) (.n 1048576),.bk 100000 .rat (.n 68719476736)] (q,j,m))(hJ:CmI 0 eqR l m j (f+q)/\1<=q)=>have hv11:=(show q<=1048576 from hb6.1);have hv12:=(show j<=1048576 from hb6.2.1);have hjl:=hJ.1.hl;have hj1:=hJ.1.hk;have hj2:=hJ.1.hi;have hj3:=hJ.2;Sp (q<n-f) (λh7=>I (?_:q<n-f) (I (?_:f+q<m.length) (I (?_:1<=q) (I (?_:q-1<n-f) (I (?_:f+(q-1)<m.length) (Sp ((!(decide ((m.getD (f+q) 0)=(m.getD (f+(q-1)) 0))))=true) (λh8=>I (?_:q<n-f) (I (?_:f+q<m.length) (I (?_:j<n) (I (?_:j<m.length) (I (show(q+1)<=1048576 by omega:Bnd (.nat .i64) (.n 1048576) (q+1)) (I (show(j+1)<=1048576 by omega:Bnd (.nat .i64) (.n 1048576) (j+1)) (q6q (⟨by rw[show f+(q+1)=f+q+1 by omega];exact hJ.1.go (by omega) (by rw[show f+q-1=f+(q-1) by omega];exact mt of_decide_eq_true (nd h8)),by omega⟩:CmI 0 eqR l (m.set j (m.getD (f+q) 0)) (j+1) (f+(q+1))/\1<=(q+1)) (?_:n-f-(q+1)<n-f-q)))))))) (λh9=>I (show(q+1)<=1048576 by omega:Bnd (.nat .i64) (.n 1048576) (q+1)) (q6q (⟨by rw[show f+(q+1)=f+q+1 by omega];exact hJ.1.stay (by omega) (by rw[show f+q-1=f+(q-1) by omega];exact decide_eq_true (nd' h9)),by omega⟩:CmI 0 eqR l m j (f+(q+1))/\1<=(q+1)) (?_:n-f-(q+1)<n-f-q))))))))) (λh10=>I (?_:j<=n) (I (?_:n<=m.length) (I (?_:0<n-j) (I (?_:j+(n-j)<=m.length) (I (?_:j<=n) (I (by rw[Qu (t:= .rat) (by omega)];omega:n<=(clrL .rat m j (n-j)).length) (q6q ((hJ.1.dst (by omega) (by omega)).1:clrL .rat m j (n-j)=unqL l) (((hJ.1.dst (n:=n) (by omega) (by omega)).2:j=(dst l).length))))))))))))) (λh13=>I (show(f+1)<=1048576 by omega:Bnd (.nat .i64) (.n 1048576) (f+1)) (q6q (⟨hI.1,hI.2.step (by omega) h13⟩:m0=l/\CmO 0 eqR m0 (f+1)) (?_:n-(f+1)<n-f))))))))) (λh14=>q6q (by have hd:=hI.2.dst (by omega);rw[hI.1]at hd⊢;exact J0 hd:m0=unqL l) ((by have hd:=hI.2.dst (by omega);rw[hI.1]at hd;rw[hd];exact hp0:n=(dst l).length))))))⟩<;>omega)
abbrev MZ:CtrS Tryz.prog:=FV.c N1
theorem PF{a b c:Rat}(h:a<b)(g:b<c):a<c:=by grind
theorem Cs{l:List Rat}{x:Rat}{i:Nat}(h:i<l.length):(l++[x]).getD i 0=l.getD i 0:=by
 rw[q6E,List.getElem?_append_left h,<-q6E]
theorem IK{l:List Rat}{x:Rat}:(l++[x]).getD l.length 0=x:=by simp[q6E]
structure DsO (k m:List Rat) (n:Nat):Prop where
 h0:0<m.length
 hf:m.getD 0 0=k.getD 0 0
 hl:m.getD (m.length-1) 0=k.getD (n-1) 0
 hs: ∀i j,i<j->j<m.length->m.getD i 0<m.getD j 0
theorem dsO{k:List Rat}: ∀{n:Nat},0<n->vF k n=true->DsO k (jG k n) n
 |0,h,_=>absurd h (by omega)
 |1,_,_=>⟨by simp[jG],by simp[jG],by simp[jG],λi j h1 h2=>by simp[jG]at h2;omega⟩
 |n+2,_,hs=>by
  have hs0:vF k (n+1)=true:=by rw[vF,q6s]at hs;exact hs.1
  have ih:=dsO (k:=k) (n:=n+1) (by omega) hs0;have hle:=Gb.1 hs (n+1) (by omega) (by omega);rw[show n+1-1=n by omega]at hle;have hl:=ih.hl;rw[show n+1-1=n by omega]at hl;rw[jG];by_cases hc:n+1=0\/k.getD (n+1) 0≠k.getD (n+1-1) 0
  .rw[if_pos hc]
   have hne:k.getD (n+1) 0≠k.getD n 0:=hc.resolve_left (by omega);have hlt:k.getD n 0<k.getD (n+1) 0:=Rat.lt_of_le_of_ne (Rat.not_lt.1 (mt q0w.2 hle)) (Ne.symm hne);have len:(jG k (n+1)++[k.getD (n+1) 0]).length=(jG k (n+1)).length+1:=by simp
   refine⟨by rw[len];omega,by rw[Cs ih.h0];exact ih.hf,by rw[len,Nat.add_sub_cancel,IK];rfl,λi j hij hj=>?_⟩;rw[len]at hj;rcases q7n j (jG k (n+1)).length with h|h
   .rw[Cs (by omega),Cs h];exact ih.hs i j hij h
   .have e:j=(jG k (n+1)).length:=by omega
    subst e;rw[Cs hij,IK];rcases Nat.eq_or_lt_of_le (show i<=(jG k (n+1)).length-1 by omega)with e|e
    .rw[e,hl];exact hlt
    .have:=ih.hs i _ e (by omega)
     rw[hl]at this;exact PF this hlt
  .rw[if_neg hc]
   have heq:k.getD (n+1) 0=k.getD n 0:=Decidable.byContradiction λh=>hc (.inr h)
   exact⟨ih.h0,ih.hf,by rw[hl];show _=k.getD (n+1) 0;rw[heq],ih.hs⟩
theorem UW{k:List Rat}(h0:0<k.length)(hs:vF k k.length=true): ∀i,i<(dst k).length->(((dst k).getD i 0=k.getD 0 0\/(dst k).getD i 0=k.getD (k.length-1) 0)↔(i=0\/i+1=(dst k).length)):=by
 intro i hi;have d:=dsO h0 hs;constructor
 .rintro(h|h)
  .left
   rcases q7f i with e|e
   .exact e
   .have:=d.hs 0 i e hi;rw[d.hf,<-h]at this;exact absurd this (Rat.lt_irrefl)
  .right
   rcases Nat.eq_or_lt_of_le (show i<=(dst k).length-1 by omega)with e|e
   .have:=d.h0;show i+1=_;omega
   .have:=d.hs i ((jG k k.length).length-1) e (by have:i<(jG k k.length).length:=hi;omega);rw[d.hl,<-h]at this;exact absurd this (Rat.lt_irrefl)
 .rintro(h|h)
  .left;rw[h];exact d.hf
  .right;rw[<-d.hl];congr 1;show i=(dst k).length-1;omega
theorem UX{k:List Rat}(h0:0<k.length)(hs:vF k k.length=true)(hn: ¬k.getD 0 0=k.getD (k.length-1) 0): ¬(dst k).length<2:=λh=>by
 have d:=dsO h0 hs;have e:(dst k).length-1=0:=by omega
 have hl:=d.hl;have:(jG k k.length).length-1=0:=e;rw[this,d.hf]at hl;exact hn hl
theorem q4o{k:List Rat}{d:Int}(h: ¬(d<1\/6<d))(h2: ¬(k.length:Int)<2*d+2)(h3: ¬40<(k.length:Int) -d-1)(h4:vF k k.length=true)(h5:k.getD 0 0=k.getD (k.length-1) 0):5=qM k d:=by
 cases ho:okN k d (dst k).length with
 |false=>exact wZ h h2 h3 h4 ho
 |true=>
  refine SU h h2 h3 h4 ho (Nat.lt_of_not_le λhc=>?_);have dd:=dsO (by omega) h4;have:=dd.hs 0 ((dst k).length-1) (by omega) (by show _<(dst k).length;omega);rw[dd.hf,show(jG k k.length).getD ((dst k).length-1) 0=k.getD (k.length-1) 0 from dd.hl,h5]at this;exact absurd this (Rat.lt_irrefl)
abbrev q16:FI:=⟨147,[(.sl .rat)],[(.s 1048576 (.n 34359738368))],λ_=>[],λb z=>(λ(k:List Rat)=> .c (.one (.dt (.sl .rat) (.s ((b0 b).len) (.n ((b0 b).mx))) (dst k)))) z⟩
theorem q17:q16.OK Tryz.prog:=qB hmix 6 Tryz.func147 rfl rfl (by decide) [(192,.s MZ),(193,.o OT)] (λ(k:List Rat) b hx hp=>qa (T4 (Bnds.h1 hx)) rfl) (λ(k:List Rat) hx hp=>by
 have hl0:k.length<=1048576:=hx.1
 refine⟨.pre 999999 (.frz 4 false [2]) (.nil),kcast (by kernel_rfl) (I (?_:k.length=k.length) (I (by rw[Sm];exact Kd k:(dst k).length<=(unqL k).length) ((PW k:(unqL k).take ((dst k).length)=dst k))))⟩<;>omega)
abbrev q15:Ctr Tryz.prog:=FI.c q17
abbrev OW:FI:=⟨82,[(.sl .rat),(.int .i64)],[(.s 1048576 (.n 34359738368)),(.n 1099511627776)],λ_=>[],λb z=>(λ(k:List Rat)(d:Int)=> .c (.one (.dt (.int .i64) (.n 5) (qM k d)))) z.1 z.2⟩
theorem OX:OW.OK Tryz.prog:=qB hmix 89 Tryz.func82 rfl rfl (by decide) [(145,.c Vz),(146,.c AA),(147,.c q15),(148,.c R3)] (λ(k:List Rat)(d:Int) b hx hp=>qa (GE k d) rfl) (λ(k:List Rat)(d:Int) hx hp=>by
 have hl0:k.length<=1048576:=hx.1.1;have hx1:Int.natAbs d<=1099511627776:=hx.2
 refine⟨.cond (.nil) (.cond (.nil) (.cond (.nil) (.cond (.nil) (.cond (.nil) (.h 8 10 (.i .sub) (.cond (.nil) (.loop [.s 50 (.nat .i64) (.n 1048576)] (λ(i:Nat)=>okN k d i=true/\i<=(dst k).length) (λ(i:Nat)=>(dst k).length-i) (λ(i:Nat)=> .cond (.cond (.nil) (.h 14 10 (.i .sub) (.nil))) (.nil))))))))),kcast (by kernel_rfl) (Sp (d<1) (λh1=>(Jb (by omega):1=qM k d)) (λh2=>Sp (6<d) (λh3=>(Jb (by omega):1=qM k d)) (λh4=>Sp (((k.length:Nat):Int)<(2*d)+2) (λh5=>(SQ (by omega) h5:5=qM k d)) (λh6=>Sp (40<(((k.length:Nat):Int) -d) -1) (λh7=>(SS (by omega) (by omega) (by omega):2=qM k d)) (λh8=>I (?_:0<k.length) (Sp ((!(vF k k.length))=true) (λh9=>(ST (by omega) (by omega) (by omega) (by simpa using h9):5=qM k d)) (λh10=>I (?_:0<k.length) (I (?_:1<=k.length) (I (?_:k.length-1<k.length) (Sp (decide ((k.getD 0 0)=(k.getD (k.length-1) 0))=true) (λh11=>(q4o (by omega) (by omega) (by omega) (by simpa using h10) (yd h11):5=qM k d)) (λh12=>have hk0:=(show 0<k.length by omega);have hsrt:=(show vF k k.length=true by simpa using h10);have hend:=UW hk0 hsrt;I (⟨rfl,q7G _⟩:okN k d 0=true/\0<=(dst k).length) (λ(i:Nat)(hb13:HB [.s 50 (.nat .i64) (.n 1048576)] i)(hJ:okN k d i=true/\i<=(dst k).length)=>have hv32:=(show i<=1048576 from hb13);have hJ1:=hJ.2;have hdl:=(show(dst k).length<=k.length from An k k.length);Sp (i<(dst k).length) (λh14=>I (?_:i<(dst k).length) (I (?_:0<k.length) (Sp (decide (((dst k).getD i 0)=(k.getD 0 0))=true) (λh15=>Sp (((je k ((dst k).getD i 0) k.length:Nat):Int)≠d+1) (λh16=>(wZ (by omega) (by omega) (by omega) hsrt (wA (i:=i) (by have q:=(hend i (by omega)).1 (.inl (yd h15));unfold vO;omega) (by omega)):5=qM k d)) (λh17=>I (show(i+1)<=1048576 by omega:Bnd (.nat .i64) (.n 1048576) (i+1)) (q6q (⟨zp hJ.1 (by have q:=(hend i (by omega)).1 (.inl (yd h15));unfold vO;omega),by omega⟩:okN k d (i+1)=true/\(i+1)<=(dst k).length) (?_:(dst k).length-(i+1)<(dst k).length-i)))) (λh18=>I (?_:1<=k.length) (I (?_:k.length-1<k.length) (Sp (decide (((dst k).getD i 0)=(k.getD (k.length-1) 0))=true) (λh19=>Sp (((je k ((dst k).getD i 0) k.length:Nat):Int)≠d+1) (λh20=>(wZ (by omega) (by omega) (by omega) hsrt (wA (i:=i) (by have q:=(hend i (by omega)).1 (.inr (yd h19));unfold vO;omega) (by omega)):5=qM k d)) (λh21=>Sp ((!(decide (((dst k).getD i 0)=(k.getD (k.length-1) 0))))=true) (λh22=>Sp (d<((je k ((dst k).getD i 0) k.length:Nat):Int)) (λh23=>(wZ (by omega) (by omega) (by omega) hsrt (wA (i:=i) (absurd (yd h19) (nd h22)) (by omega)):5=qM k d)) (λh24=>I (show(i+1)<=1048576 by omega:Bnd (.nat .i64) (.n 1048576) (i+1)) (q6q (⟨zp hJ.1 (absurd (yd h19) (nd h22)),by omega⟩:okN k d (i+1)=true/\(i+1)<=(dst k).length) (?_:(dst k).length-(i+1)<(dst k).length-i)))) (λh25=>I (show(i+1)<=1048576 by omega:Bnd (.nat .i64) (.n 1048576) (i+1)) (q6q (⟨zp hJ.1 (by have q:=(hend i (by omega)).1 (.inr (yd h19));unfold vO;omega),by omega⟩:okN k d (i+1)=true/\(i+1)<=(dst k).length) (?_:(dst k).length-(i+1)<(dst k).length-i))))) (λh26=>Sp ((!(decide (((dst k).getD i 0)=(k.getD (k.length-1) 0))))=true) (λh27=>Sp (d<((je k ((dst k).getD i 0) k.length:Nat):Int)) (λh28=>(wZ (by omega) (by omega) (by omega) hsrt (wA (i:=i) (by have q:=mt (hend i (by omega)).2 (not_or.2 ⟨(yd' h18),(yd' h26)⟩);unfold vO;omega) (by omega)):5=qM k d)) (λh29=>I (show(i+1)<=1048576 by omega:Bnd (.nat .i64) (.n 1048576) (i+1)) (q6q (⟨zp hJ.1 (by have q:=mt (hend i (by omega)).2 (not_or.2 ⟨(yd' h18),(yd' h26)⟩);unfold vO;omega),by omega⟩:okN k d (i+1)=true/\(i+1)<=(dst k).length) (?_:(dst k).length-(i+1)<(dst k).length-i)))) (λh30=>I (show(i+1)<=1048576 by omega:Bnd (.nat .i64) (.n 1048576) (i+1)) (q6q (⟨zp hJ.1 (absurd (nd' h30) (yd' h26)),by omega⟩:okN k d (i+1)=true/\(i+1)<=(dst k).length) (?_:(dst k).length-(i+1)<(dst k).length-i)))))))))) (λh31=>(SV (by omega) (by omega) (by omega) hsrt (by rw[show(dst k).length=i by omega];exact hJ.1) (UX hk0 hsrt (yd' h12)):0=qM k d))))))))))))))⟩<;>omega)
abbrev Ef:Ctr Tryz.prog:=FI.c OX
section
section
variable {P:Program}
theorem TW{n:Nat}{Ks:List Nat}{st:WSt}(hk:st.Ok){k:Nat}{B B':WB}(hL:look st.L k=some B)(hi:BImp k B.exp B'.exp)(hB:B'.ok):
  EntW n Ks st ⟨st.rm,st.m,st.rL,(k,B')::st.L⟩/\(⟨st.rm,st.m,st.rL,(k,B')::st.L⟩:WSt).Ok:=by
 have hlk: ∀q b',qw ⟨st.rm,st.m,st.rL,(k,B')::st.L⟩ q=some b'->(q=k/\b'=B')\/(q≠k/\qw st q=some b'):=by
  intro q b' h;unfold qw at h;simp only[look]at h;by_cases e:k=q
  .subst e;simp at h;exact .inl ⟨rfl,h.symm⟩
  .rw[v5 e]at h;exact .inr ⟨λe'=>e e'.symm,h⟩
 have hlB:qw st k=some B:=by unfold qw;rw[hL]
 refine⟨Dy (λt v' h=>⟨v',h,λ_ _ _ h=>h⟩) λq b' h=>?_,λt v h=>hk.m t v h,λq b' h=>?_,hk.dm,λq hq=>?_⟩
 .rcases hlk q b' h with⟨rfl,rfl⟩|⟨_,h⟩
  .exact⟨B,hlB,hi⟩
  .exact⟨b',h,λ_ _ _ h=>h⟩
 .rcases hlk q b' h with⟨rfl,rfl⟩|⟨_,h⟩
  .exact hB
  .exact hk.l q b' h
 .have h0:=hk.dl q hq
  have hne:k≠q:=λe=>by subst e;rw[h0]at hL;cases hL
  show look ((k,B')::st.L) q=none;simp only[look,v5 hne,cond_false];exact h0
theorem P4{α:Type}{l:List (Nat×α)}{k q:Nat}(h:k≠q):look (l.filter λp=>!Nat.beq p.1 k) q=look l q:=by
 induction l with
 |nil=>rfl
 |cons p r ih=>
  obtain⟨a,v⟩:=p;simp only[List.filter_cons];by_cases e:a=k
  .subst e
   rw[if_neg (by simp),ih];simp only[look,v5 h,cond_false]
  .rw[if_pos (by rw[v5 e];rfl)]
   simp only[look,ih]
theorem Step.same{w:World}{H:Heap}{β:Bm}(k:Nat)(h:Heap.On H w):Step w H β [k] [] [] w H β:=
 ⟨rfl,rfl,rfl,q7j _,λ_ _ _=>rfl,Heap.Le.refl _,λb hb=> .inl hb,h,λ_ _=>rfl,λk hk=>by simp at hk,λk hk=>by simp at hk⟩
end
end
section
section
variable {P:Program}
def ipV(k:Nat)(t:Ty)(b:Bd)(x:t.den):WV->Option WV
 | .c (.one (.loc k' off))=>bif Nat.beq k' k&&Nat.ble off t.w then some (.c (.one (.ip t b x off)))else none
 |_=>none
theorem QV{k:Nat}{t:Ty}{b:Bd}{x:t.den}{v v':WV}(h:ipV k t b x v=some v')(hb:Bnd t b x):RelV k (cellsC t x) none v.exp v'.exp/\v'.ok:=by
 unfold ipV at h;split at h
 .rename_i k' off
  cases hc:Nat.beq k' k&&Nat.ble off t.w with
  |false=>rw[hc]at h;cases h
  |true=>
   rw[hc]at h;simp only[cond_true,q7K]at h;subst h
   simp only[q6s]at hc;have e:=q7e hc.1;subst e
   have hle:off<=t.w:=q7g hc.2;refine⟨PK (q2c (m:=t.w-off) (by rw[jM];omega) ?_),hb,rfl⟩;exact q75 (by rw[q6O,jM];omega)
 .cases h
def EZ(k:Nat)(t:Ty)(b:Bd)(x:t.den)(ts:List Nat):List (Nat×WV)->Option (List (Nat×WV))
 |[]=>some []
 |p::r=>match EZ k t b x ts r with
  |none=>none
  |some r'=>bif jX k p.2.ids then(bif jX p.1 ts then(match ipV k t b x p.2 with|some v=>some ((p.1,v)::r')|none=>none)else some r')else some (p::r')
theorem GN{k:Nat}{t:Ty}{b:Bd}{x:t.den}{ts:List Nat}(hb:Bnd t b x): ∀{m m':List (Nat×WV)},EZ k t b x ts m=some m'->(∀p∈m,p.2.ok)-> ∀q∈m',∃p∈m,p.1=q.1/\RelV k (cellsC t x) none p.2.exp q.2.exp/\q.2.ok
 |[],m',h,_,q,hq=>by simp[EZ]at h;subst h;simp at hq
 |p::r,m',h,hok,q,hq=>by
  simp only[EZ]at h
  cases h1:EZ k t b x ts r with
  |none=>rw[h1]at h;cases h
  |some r'=>
   rw[h1]at h;simp only at h
   have ih:=GN hb h1 (λp hp=>hok p (q6V _ hp))
   have up: ∀q∈r',∃p'∈p::r,p'.1=q.1/\RelV k (cellsC t x) none p'.2.exp q.2.exp/\q.2.ok:=λq hq=>by
    obtain⟨p',a,c⟩:=ih q hq;exact⟨p',q6V _ a,c⟩
   cases h2:jX k p.2.ids with
   |false=>
    rw[h2]at h;simp at h;subst h
    rcases q6U.1 hq with rfl|hq
    .exact⟨q,q6W,rfl,Fn,hok q q6W⟩
    .exact up q hq
   |true=>
    rw[h2]at h;simp only[cond_true]at h
    cases h3:jX p.1 ts with
    |false=>rw[h3]at h;simp at h;subst h;exact up q hq
    |true=>
     rw[h3]at h;simp only[cond_true]at h
     split at h
     .rename_i v hv
      simp only[q7K]at h;subst h
      rcases q6U.1 hq with rfl|hq
      .obtain⟨q1,q2⟩:=QV hv hb;exact⟨p,q6W,rfl,q1,q2⟩
      .exact up q hq
     .cases h
def T9(k:Nat)(t:Ty)(b:Bd)(ts:List Nat)(Ks:List Nat)(st:WSt):Option (List Prop×WSt):=
 bif EY Ks st k&&st.L.all (λp=>Nat.beq p.1 k||!jX k p.2.ids)then(match look st.L k with
  |some (.rig l)=>match reify t l with
   |some (b',x,[])=>bif b'.le b then(match EZ k t b x ts st.m with
    |some m'=>some ([],⟨st.rm,m',st.rL,st.L.filter λp=>!Nat.beq p.1 k⟩)
    |none=>none)else none
   |_=>none
  |_=>none)else none
theorem mem_filt{α:Type}{l:List (Nat×α)}{k:Nat}{q:Nat×α}(h:q∈l.filter λp=>!Nat.beq p.1 k):q∈l/\q.1≠k:=by
 obtain⟨a,c⟩:=q6X.1 h;exact⟨a,λe=>by subst e;simp at c⟩
def frzP(k:Nat)(t:Ty)(b:Bd)(ts:List Nat):PExt:=⟨T9 k t b ts,by
 intro n Ks st st' vc hk h hvc;unfold T9 at h
 cases hc:EY Ks st k&&st.L.all (λp=>Nat.beq p.1 k||!jX k p.2.ids)with
 |false=>rw[hc]at h;cases h
 |true=>
  rw[hc]at h;simp only[cond_true]at h
  rw[q6s]at hc;obtain⟨hc,hc6⟩:=hc;unfold EY at hc;simp only[q6s,List.all_eq_true]at hc hc6;obtain⟨⟨⟨⟨⟨c0,c1⟩,c2⟩,c3⟩,c4⟩,c5⟩:=hc;split at h
  .rename_i l hl
   split at h
   .rename_i b' x hr
    cases hb:b'.le b with
    |false=>rw[hb]at h;cases h
    |true=>
     rw[hb]at h;simp only[cond_true]at h
     split at h
     .rename_i m' hm
      simp only[q7K,q7L]at h;obtain⟨rfl,rfl⟩:=h
      have hlk:qw st k=some (.rig l):=by unfold qw;rw[hl]
      have hlok:WAs.ok l:=hk.l k _ hlk;obtain⟨m0,e1,i1,o1⟩:=zj hr;have e1:WAs.exp l=m0:=by rw[e1];simp[WAs.exp]
      subst e1;have hbn:Bnd t b x:=Bnd.mono hb (o1 hlok).1;have hB1:(WB.rig [.dt t b x]).ok:=vI hbn
      obtain⟨ent1,ok1⟩:=TW (n:=n) (Ks:=Ks) hk hl (B:= .rig l) (B':= .rig [.dt t b x]) (by
       show BImp k (.rigid (WAs.exp l)) (.rigid (WAs.exp [.dt t b x]))
       rw[zG];exact zO i1) hB1
      have hmok: ∀p∈st.m,p.2.ok:=λp hp=>hk.m p.1 p.2 (by unfold qH;rw[zE c1 hp])
      have sm:=GN hbn hm hmok
      have hM: ∀t' v',qH ⟨st.rm,m',st.rL,st.L.filter λp=>!Nat.beq p.1 k⟩ t'=some v'-> ∃v,qH st t'=some v/\RelV k (cellsC t x) none v.exp v'.exp/\v'.ok:=by
       intro t' v' hv;unfold qH at hv;simp only at hv
       cases hl:look m' t' with
       |some x=>
        rw[hl]at hv;simp at hv;subst hv
        obtain⟨p,hp,e,h1,h2⟩:=sm _ (j7 hl);have e':p.1=t':=e;exact⟨p.2,by unfold qH;rw[<-e',zE c1 hp],h1,h2⟩
       |none=>
        rw[hl]at hv;simp only at hv
        have h3:qH st t'=some v':=by unfold qH;rw[hk.dm t' (by rw[hv];simp)];exact hv
        exact⟨v',h3,Fn,hk.m t' v' h3⟩
      have hB: ∀q b',qw ⟨st.rm,m',st.rL,st.L.filter λp=>!Nat.beq p.1 k⟩ q=some b'->q≠k/\qw st q=some b'/\b'.ok:=by
       intro q b' hv;unfold qw at hv;simp only at hv
       cases hl:look (st.L.filter λp=>!Nat.beq p.1 k) q with
       |some y=>
        rw[hl]at hv;simp at hv;subst hv
        have hq:q≠k:=(mem_filt (j7 hl)).2;rw[P4 (λe=>hq e.symm)]at hl;have h3:qw st q=some y:=by unfold qw;rw[hl]
        exact⟨hq,h3,hk.l q y h3⟩
       |none=>
        rw[hl]at hv;simp only at hv
        have h3:qw st q=some b':=by unfold qw;rw[hk.dl q (by rw[hv];simp)];exact hv
        have h4:=c5 _ (j7 hv);simp only[q6s,q6u]at h4;exact⟨λe=>by subst e;simp at h4,h3,hk.l q b' h3⟩
      have e1L: ∀q,q≠k->qw ⟨st.rm,st.m,st.rL,(k,WB.rig [.dt t b x])::st.L⟩ q=qw st q:=by
       intro q hq;unfold qw;simp only[look,v5 (λe=>hq e.symm),cond_false]
      refine⟨Ent.trans ent1 ?_,⟨λt' v' h=>(hM t' v' h).choose_spec.2.2,λq b' h=>(hB q b' h).2.2,?_,?_⟩,rfl,rfl⟩
      .refine Kf (k:=k) (cells:=cellsC t x) (g:=none) c0 (λk0 hk0=>?_) (.inl ⟨rfl,?_⟩) ?_ ?_
       .rw[qN]
        by_cases e:k0=k
        .subst e;unfold qw;simp[look]
        .rw[e1L k0 e]
         obtain⟨x,hx⟩:=Option.isSome_iff_exists.1 (c3 k0 hk0);rw[hx];simp
       .rw[qN]
        have:qw ⟨st.rm,st.m,st.rL,(k,WB.rig [.dt t b x])::st.L⟩ k=some (.rig [.dt t b x]):=by unfold qw;simp[look]
        rw[this];simp only[q7J,WB.exp,zG];rfl
       .intro t' av' hv
        rw[v8]at hv
        cases hl:qH ⟨st.rm,m',st.rL,st.L.filter λp=>!Nat.beq p.1 k⟩ t' with
        |none=>rw[hl]at hv;cases hv
        |some v'=>
         rw[hl]at hv;simp at hv;subst hv
         obtain⟨v,h1,h2,_⟩:=hM t' v' hl;exact⟨v.exp,by rw[v8];show(qH st t').map _=_;rw[h1];rfl,h2⟩
       .intro q b' hv
        rw[qN]at hv
        cases hl:qw ⟨st.rm,m',st.rL,st.L.filter λp=>!Nat.beq p.1 k⟩ q with
        |none=>rw[hl]at hv;cases hv
        |some b1=>
         rw[hl]at hv;simp at hv;subst hv
         obtain⟨h0,h1,_⟩:=hB q b1 hl;exact⟨h0,b1.exp,by rw[qN,e1L q h0,h1];rfl,Ia⟩
      .intro t' ht'
       show look m' t'=none;refine jP.2 λq hq e=>?_
       obtain⟨p,hp,e',_⟩:=sm q hq;exact absurd e (λe=>(jP.1 (hk.dm t' ht')) p hp (e'.trans e))
      .intro q hq
       show look (st.L.filter λp=>!Nat.beq p.1 k) q=none;exact jP.2 λq' hq' e=>(jP.1 (hk.dl q hq)) q' (mem_filt hq').1 e
     .cases h
   .cases h
  .cases h⟩
end
end
section
section
variable {P:Program}
theorem RB{l:List Atom}(h:l.length=1): ∃u,l=[u]:=by
 match l,h with
 |[u],_=>exact⟨u,rfl⟩
end
end
def wn(K:Nat)(k:Option Nat)(l:List Nat):Bool:=!jX K l&&(match k with|some k=>!jX k l|none=>true)
theorem A1{K:Nat}{k:Option Nat}{l:List Nat}(h:wn K k l=true):K∉l/\ ∀k0,k=some k0->k0∉l:=by
 unfold wn at h;simp only[q6s,q6u]at h;refine⟨λhm=>by rw[zx.2 hm]at h;exact absurd h.1 (by simp),λk0 e hm=>?_⟩;subst e;have:=h.2;simp only[q6u]at this;rw[zx.2 hm]at this;cases this
def Db(st:WSt)(kb K:Nat)(k:Option Nat):Bool:=
 Nat.blt K 100000&&vd st.m&&vd st.L&&!Nat.beq kb K&&!(match k with|some k=>Nat.beq kb k|none=>false)&&(look st.rL kb).isNone&&
  st.rm.all (λp=>wn K k p.2.ids)&&st.rL.all (λp=>renL K k p)
def zT(st:WSt)(kb K:Nat)(k:Option Nat)(cs:List WA)(B:WB):WSt:=
 ⟨st.rm,st.m.filter (λp=>wn K k p.2.ids),st.rL,(K,B)::(kb,.rig cs)::st.L.filter (λp=>!Nat.beq p.1 kb&&renL K k p)⟩
def renB(kb i K:Nat)(t:Ty)(b:Bd)(st:WSt):Option WSt:=
 match look st.L kb with
 |some (.rig l)=>match l.drop i with
  | .gs k n w nb::post=>bif Nat.beq k K then some st else(match look st.L k with
   |some (.gro t' b' xs)=>bif Db st kb K (some k)&&(wn K (some k) (WAs.ids (l.take i))&&wn K (some k) (WAs.ids post))then some (zT st kb K (some k) (l.take i++ .gs K n w nb::post) (.gro t' b' xs))else none
   |_=>none)
  |a::post=>bif zh a&&(Db st kb K none&&(wn K none (WAs.ids (l.take i))&&wn K none (WAs.ids post)))then some (zT st kb K none (l.take i++ .gs K 0 t.w 0::post) (.gro t b []))else none
  |[]=>none
 |_=>none
theorem G9{β β':Bm}{H:Heap}{x x':Atom}{b:List Atom}(hb: ∀q,v9 q b=true->β' q=β q)(hx: ∀u,x.sat β H u->x'.sat β' H u):
  ∀{a:List Atom},(∀q,v9 q a=true->β' q=β q)-> ∀{vs:List Value},Sats β H (a++x::b) vs->Sats β' H (a++x'::b) vs
 |[],_,_::_,h=>⟨hx _ h.1,Sats.congr (Heap.Le.refl _) hb h.2⟩
 |[],_,[],h=>h.elim
 |y::a,ha,v::vs,h=>⟨Atom.sat_congr (Heap.Le.refl _) (λk hk=>ha k (by simp[v9,hk])) h.1,G9 hb hx (λk hk=>ha k (by simp[v9,hk])) h.2⟩
 |_::_,_,[],h=>h.elim
theorem BL(pre post:List WA)(a:WA)(x:Atom)(h:a.exp=[x]):WAs.exp (pre++a::post)=WAs.exp pre++x::WAs.exp post:=by
 rw[WAs.exp_app];congr 1
 show a.exp++_=_;rw[h];rfl
theorem IF{n:Nat}{Ks:List Nat}{st:WSt}(hk:st.Ok){kb K:Nat}{k:Option Nat}{pre post:List WA}{a0:WA}{t:Ty}{b0:Bd}{l:List t.den}(hr:Db st kb K k=true){m w nb:Nat}(hm:m<=nb)(hB:(WB.gro t b0 l).ok)
  (hbox:look st.L kb=some (.rig (pre++a0::post)))(f1:wn K k (WAs.ids pre)=true)(f2:wn K k (WAs.ids post)=true)
  (hold:(∃k0,k=some k0/\k0≠K/\a0= .gs k0 m w nb/\look st.L k0=some (.gro t b0 l))\/(k=none/\m=0/\l=[]/\a0= .vl (.slice none 0 0))):
  EntW n Ks st (zT st kb K k (pre++ .gs K m w nb::post) (.gro t b0 l))/\(zT st kb K k (pre++ .gs K m w nb::post) (.gro t b0 l)).Ok:=by
 unfold Db at hr;simp only[q6s,List.all_eq_true]at hr;obtain⟨⟨⟨⟨⟨⟨⟨r0,r1⟩,r2⟩,r6⟩,r7⟩,r3⟩,r4⟩,r5⟩:=hr;have r0:K<100000:=by simpa using r0
 have r6:kb≠K:=λe=>by subst e;simp at r6
 have r7: ∀k0,k=some k0->kb≠k0:=λk0 h e=>by subst h e;simp at r7
 have r3:look st.rL kb=none:=Option.isNone_iff_eq_none.1 r3;generalize hcs:pre++WA.gs K m w nb::post=cs;have hboxL:qw st kb=some (.rig (pre++a0::post)):=by unfold qw;rw[hbox]
 have hslot: ∀t v',qH (zT st kb K k cs (.gro _ b0 l)) t=some v'->qH st t=some v'/\K∉v'.ids:=by
  intro t v' h;unfold qH zT at h;simp only at h
  cases hf:look (st.m.filter (λp=>wn K k p.2.ids)) t with
  |some x=>
   rw[hf]at h;simp at h;subst h
   obtain⟨h1,h2⟩:=zi r1 hf;exact⟨by unfold qH;rw[h1],(A1 h2).1⟩
  |none=>
   rw[hf]at h;simp only at h
   refine⟨?_,(A1 (r4 _ (j7 h))).1⟩;unfold qH;rw[hk.dm t (by rw[h];simp)];exact h
 have hblk: ∀q b',qw (zT st kb K k cs (.gro _ b0 l)) q=some b'->(q=K/\b'= .gro _ b0 l)\/(q=kb/\b'= .rig cs)\/(q≠K/\q≠kb/\qw st q=some b'/\K∉b'.ids/\ ∀k0,k=some k0->q≠k0):=by
  intro q b' h;unfold qw zT at h;simp only[look]at h;by_cases e:K=q
  .subst e;simp at h;exact .inl ⟨rfl,h.symm⟩
  .rw[v5 e]at h;simp only[cond_false]at h
   by_cases e2:kb=q
   .subst e2;simp at h;exact .inr (.inl ⟨rfl,h.symm⟩)
   .rw[v5 e2]at h;simp only[cond_false]at h
    refine .inr (.inr ⟨λe'=>e e'.symm,λe'=>e2 e'.symm,?_⟩)
    cases hf:look (st.L.filter (λp=>!Nat.beq p.1 kb&&renL K k p)) q with
    |some x=>
     rw[hf]at h;simp at h;subst h
     obtain⟨h1,h2⟩:=zi r2 hf;simp only[renL,q6s,q6u]at h2;refine⟨by unfold qw;rw[h1],λhm=>by rw[zx.2 hm]at h2;exact absurd h2.2.1.2 (by simp),λk0 hk0 e=>?_⟩;subst hk0 e;simp at h2
    |none=>
     rw[hf]at h;simp only at h
     have h4:=(r5 _ (j7 h));simp only[renL,q6s,q6u]at h4;refine⟨?_,λhm=>by rw[zx.2 hm]at h4;exact absurd h4.1.2 (by simp),λk0 hk0 e=>?_⟩
     .unfold qw;rw[hk.dl q (by rw[h];simp)];exact h
     .subst hk0 e;simp at h4
 refine⟨?_,⟨λt v' h=>?_,λq b' h=>?_,λt ht=>?_,λq hq=>?_⟩⟩
 .intro E hn hK a w' H β hrep
  let β':Bm:=λq=>if q=K then(match k with|some k0=>β k0|none=>none)else β q
  have hβ: ∀q,q≠K->β' q=β q:=λq h=>if_neg h
  have hβK:β' K=(match k with|some k0=>β k0|none=>none):=if_pos rfl
  have holdL: ∀k0,k=some k0->look st.L k0=some (.gro _ b0 l)/\qw st k0=some (.gro _ b0 l):=by
   intro k0 h0;rcases hold with⟨k1,h1,_,_,h2⟩|⟨h1,_⟩
   .rw[h0]at h1;cases h1
    exact⟨h2,by unfold qw;rw[h2]⟩
   .rw[h0]at h1;cases h1
  have hcA: ∀(v':WV),K∉v'.ids-> ∀q,v'.exp.men q=true->β' q=β q:=λv' h q hq=>hβ q λe=>h (e▸WV.men_ids hq)
  have hcB: ∀(b':WB),K∉b'.ids-> ∀q,b'.exp.men q=true->β' q=β q:=λb' h q hq=>hβ q λe=>h (e▸WB.men_ids hq)
  have hcL: ∀(c:List WA),K∉WAs.ids c-> ∀q,v9 q (WAs.exp c)=true->β' q=β q:=λc h q hq=>hβ q λe=>h (e▸WAs.men_ids hq)
  have hrepL: ∀k0,k=some k0->(WB.gro _ b0 l).exp.rep β w' H k0:=λk0 h0=>hrep.blk k0 _ (by rw[qD,qN,(holdL k0 h0).2];rfl)
  have hin: ∀q b',qw (zT st kb K k cs (.gro _ b0 l)) q=some b'-> ∀b c,β' q=some (b,c)-> ∃q0 x,jI st.toA (2*q0+1)=some (.bl x)/\β q0=some (b,c)/\(q=K->k=some q0)/\(q≠K->q0=q):=by
   intro q b' h b c hb;rcases hblk q b' h with⟨rfl,rfl⟩|⟨rfl,rfl⟩|⟨h1,_,h2,h3,h4⟩
   .rw[hβK]at hb
    cases k with
    |none=>cases hb
    |some k0=>exact⟨k0,_,by rw[qD,qN,(holdL k0 rfl).2];rfl,hb,λ_=>rfl,λh=>absurd rfl h⟩
   .rw[hβ q r6]at hb
    exact⟨q,_,by rw[qD,qN,hboxL];rfl,hb,λh=>absurd h r6,λ_=>rfl⟩
   .rw[hβ q h1]at hb
    exact⟨q,_,by rw[qD,qN,h2];rfl,hb,λh=>absurd h h1,λ_=>rfl⟩
  refine⟨H,β',⟨hrep.defers,hrep.size,?_,?_,?_,?_,λq hq=>?_,hrep.os,hrep.tape,hrep.output,hrep.wsize,hrep.frame,hrep.hle,hrep.hnew,hrep.hon⟩⟩
  .intro t av ht
   rw[jC,v8]at ht
   cases hv:qH (zT st kb K k cs (.gro _ b0 l)) t with
   |none=>rw[hv]at ht;cases ht
   |some v'=>
    rw[hv]at ht;simp at ht;subst ht
    obtain⟨h2,h3⟩:=hslot t v' hv;obtain⟨u,hu,hsat⟩:=hrep.slot t _ (by rw[jC,v8,h2];rfl);exact⟨u,hu,AV.sat_congr (Heap.Le.refl _) (hcA v' h3) hsat⟩
  .intro q x hx
   rw[qD,qN]at hx
   cases hv:qw (zT st kb K k cs (.gro _ b0 l)) q with
   |none=>rw[hv]at hx;cases hx
   |some b'=>
    rw[hv]at hx;simp at hx;subst hx
    rcases hblk q b' hv with⟨rfl,rfl⟩|⟨rfl,rfl⟩|⟨h1,_,h2,h3,h4⟩
    .rcases hold with⟨k0,rfl,hne,hs,hl⟩|⟨rfl,rfl,rfl,hs⟩
     .have h9:=hrepL k0 rfl
      rcases h9 with⟨h5,h6⟩|⟨b,c,arr,T,h5,h6,h7,h8,h9⟩
      .exact .inl ⟨by rw[hβK];exact h5,h6⟩
      .refine .inr ⟨b,c,arr,T,by rw[hβK];exact h5,h6,h7,h8,?_⟩
       exact Sats.congr (Heap.Le.refl _) (λq hq=>by rw[zI]at hq;cases hq) h9
     .exact .inl ⟨hβK,rfl⟩
    .obtain⟨b,c,arr,T,h5,h6,h7⟩:=hrep.blk q _ (by rw[qD,qN,hboxL];rfl)
     refine⟨b,c,arr,T,by rw[hβ q r6];exact h5,h6,?_⟩;subst hcs;rw[BL _ _ _ (.gs K m) rfl];rcases hold with⟨k0,rfl,hne,rfl,hl⟩|⟨rfl,rfl,rfl,rfl⟩
     .rw[BL _ _ _ (.gs k0 m) rfl]at h7
      refine G9 (hcL post (A1 f2).1) (λu hu=>?_) (hcL pre (A1 f1).1) h7;rcases hu with⟨h5,h6,h7⟩|⟨b,c,h5,h6⟩
      .exact .inl ⟨by rw[hβK];exact h5,h6,h7⟩
      .exact .inr ⟨b,c,by rw[hβK];exact h5,h6⟩
     .rw[BL _ _ _ (.val (.slice none 0 0)) rfl]at h7
      refine G9 (hcL post (A1 f2).1) (λu hu=>?_) (hcL pre (A1 f1).1) h7;exact .inl ⟨hβK,rfl,hu.1⟩
    .refine Blk.rep_congr (hrep.blk q b'.exp (by rw[qD,qN,h2];rfl)) (Heap.Le.refl _) ?_ (λ_ _ _=>rfl)
     rintro q' (rfl|hq')
     .exact hβ _ h1
     .exact hcB b' h3 q' hq'
  .intro q x b c hx hb
   rw[qD,qN]at hx
   cases hv:qw (zT st kb K k cs (.gro _ b0 l)) q with
   |none=>rw[hv]at hx;cases hx
   |some b'=>
    obtain⟨q0,y,h1,h2,_,_⟩:=hin q b' hv b c hb;exact hrep.own q0 y b c h1 h2
  .intro q q' x x' b c c' hx hx' hne hb hb'
   rw[qD,qN]at hx hx'
   cases hv:qw (zT st kb K k cs (.gro _ b0 l)) q with
   |none=>rw[hv]at hx;cases hx
   |some b1=>
    cases hv':qw (zT st kb K k cs (.gro _ b0 l)) q' with
    |none=>rw[hv']at hx';cases hx'
    |some b2=>
     obtain⟨q0,y,h1,h2,h3,h4⟩:=hin q b1 hv b c hb;obtain⟨q0',y',h1',h2',h3',h4'⟩:=hin q' b2 hv' b c' hb';refine hrep.inj q0 q0' y y' b c c' h1 h1' ?_ h2 h2';intro e;by_cases eq:q=K
     .have k1:=h3 eq
      have hq':q'≠K:=λe'=>hne (eq.trans e'.symm)
      have:=h4' hq';rcases hblk q' b2 hv' with⟨e',_⟩|⟨e',_⟩|⟨_,_,_,_,h9⟩
      .exact hq' e'
      .exact r7 q0 k1 (by rw[e,this,e'])
      .exact h9 q0 k1 (by rw[<-this,e])
     .have:=h4 eq
      by_cases eq':q'=K
      .have k1:=h3' eq'
       rcases hblk q b1 hv with⟨e',_⟩|⟨e',_⟩|⟨_,_,_,_,h9⟩
       .exact eq e'
       .exact r7 q0' k1 (by rw[<-e,this,e'])
       .exact h9 q0' k1 (by rw[<-this,e])
      .exact hne (by rw[<-h4 eq,<-h4' eq',e])
  .rw[hβ q (λe=>by have:=E.hKs q hq;omega)];exact hrep.bor q hq
 .exact hk.m t v' (hslot t v' h).1
 .rcases hblk q b' h with⟨_,rfl⟩|⟨_,rfl⟩|⟨_,_,h2,_⟩
  .exact hB
  .have h0:WAs.ok (pre++a0::post):=hk.l kb (.rig (pre++a0::post)) hboxL
   obtain⟨h1,h2⟩:=WAs.ok_app.1 h0;subst hcs;exact WAs.ok_app.2 ⟨h1,WAs.ok_cons.2 ⟨hm,(WAs.ok_cons.1 h2).2⟩⟩
  .exact hk.l q b' h2
 .exact wM (hk.dm t ht)
 .show look ((K,WB.gro t b0 l)::(kb,.rig cs)::st.L.filter (λp=>!Nat.beq p.1 kb&&renL K k p)) q=none
  have hq':look st.rL q≠none:=hq;obtain⟨x,hx⟩:=Option.ne_none_iff_exists'.1 hq';have h4:=(r5 _ (j7 hx));simp only[renL,q6s,q6u]at h4;have hne:K≠q:=λe=>by subst e;simp at h4
  have hne2:kb≠q:=λe=>by subst e;exact hq' r3
  simp only[look,v5 hne,v5 hne2,cond_false];exact wM (hk.dl q hq')
theorem PC{n:Nat}{Ks:List Nat}{st st':WSt}(hk:st.Ok){kb i K:Nat}{t:Ty}{b:Bd}(h:renB kb i K t b st=some st'):EntW n Ks st st'/\st'.Ok/\st'.rm=st.rm/\st'.rL=st.rL:=by
 unfold renB at h;split at h
 .rename_i l hbox
  have hl: ∀{a:WA}{post:List WA},l.drop i=a::post->look st.L kb=some (.rig (l.take i++a::post)):=λe=>by rw[<-e,List.take_append_drop];exact hbox
  split at h
  .rename_i k m w nb post hd
   cases hb:Nat.beq k K with
   |true=>rw[hb]at h;simp at h;subst h;exact⟨Ent.refl,hk,rfl,rfl⟩
   |false=>
    rw[hb]at h;simp only[cond_false]at h
    split at h
    .rename_i t' b' xs hL
     cases hr:Db st kb K (some k)&&(wn K (some k) (WAs.ids (l.take i))&&wn K (some k) (WAs.ids post))with
     |false=>rw[hr]at h;cases h
     |true=>
      rw[hr]at h;simp at h;subst h
      simp only[q6s]at hr;have hB:(WB.gro t' b' xs).ok:=hk.l k _ (by unfold qw;rw[hL]);have hok:WAs.ok (l.take i++ .gs k m w nb::post):=hk.l kb (.rig (l.take i++ .gs k m w nb::post)) (by unfold qw;rw[hl hd]);have hmn:m<=nb:=(WAs.ok_cons.1 (WAs.ok_app.1 hok).2).1;obtain⟨h1,h2⟩:=IF (n:=n) (Ks:=Ks) hk hr.1 hmn hB (hl hd) hr.2.1 hr.2.2 (.inl ⟨k,rfl,(λe=>by subst e;simp at hb),rfl,hL⟩);exact⟨h1,h2,rfl,rfl⟩
    .cases h
  .rename_i a post hne hd
   cases hc:zh a&&(Db st kb K none&&(wn K none (WAs.ids (l.take i))&&wn K none (WAs.ids post)))with
   |false=>rw[hc]at h;cases h
   |true=>
    rw[hc]at h;simp at h;subst h
    simp only[q6s]at hc;have:=zY hc.1;subst this
    obtain⟨h1,h2⟩:=IF (n:=n) (Ks:=Ks) (t:=t) (b0:=b) (l:=[]) (w:=t.w) hk hc.2.1 (q7j 0) (λx hx=>by simp at hx) (hl hd) hc.2.2.1 hc.2.2.2 (.inr ⟨rfl,rfl,rfl,rfl⟩);exact⟨h1,h2,rfl,rfl⟩
  .cases h
 .cases h
def OD(kb K:Nat)(pre post:List WA)(t:Ty)(b:Bd)(nb:Nat)(st:WSt):Option (List Prop×List t.den):=
 match look st.rL kb,look st.rL K with
 |none,none=>match look st.L kb,look st.L K with
  |some (.rig c),some (.gro t' b' l)=>match c.drop pre.length with
   | .gs k n w nb'::post'=>if h:(Ty.sl t').beq (.sl t)=true then
     (bif Nat.beq k K&&Nat.beq w t.w then some ((c.take pre.length=pre)::(post'=post)::(n=l.length)::((bif Nat.ble nb' nb then[]else[n<=nb])++(bif b'.le b then[]else[∀x∈vX (t:= .sl t') (t':= .sl t) h l,Bnd t b x])),vX (t:= .sl t') (t':= .sl t) h l)else none)else none
   |_=>none
  |_,_=>none
 |_,_=>none
def gboX(kb K:Nat)(pre post:List WA)(t:Ty)(b:Bd)(nb:Nat):HavX where
 t:= .sl t
 bnd l:=(List.length (show List t.den from l)<=nb/\ ∀x∈(show List t.den from l),Bnd t b x)/\WAs.ok pre/\WAs.ok post
 ss:=[]
 bs:=[kb,K]
 gb:=[K]
 m _:=[]
 L l:=[(kb,.rig (pre++ .gs K (List.length (show List t.den from l)) t.w nb::post)),(K,.gro t b l)]
 val st:=OD kb K pre post t b nb st
 ren st:=renB kb pre.length K t b st
 hm:=λ_ p hp=>by simp at hp
 hL:=by
  intro x hx p hp;simp only[q6U,q72,or_false]at hp;rcases hp with rfl|rfl
  .exact⟨by simp,WAs.ok_app.2 ⟨hx.2.1,WAs.ok_cons.2 ⟨hx.1.1,hx.2.2⟩⟩⟩
  .exact⟨by simp,hx.1.2⟩
 hval:=by
  intro st vc x hk e hvc;unfold OD at e;split at e
  .rename_i hr1 hr2
   split at e
   .rename_i c t' b' l h1 h2
    split at e
    .rename_i k n w nb' post' hd
     split at e
     .rename_i hb
      have:=Ty.beq_eq hb;cases this
      cases hc:Nat.beq k K&&Nat.beq w t.w with
      |false=>rw[hc]at e;cases e
      |true=>
       rw[hc]at e;simp only[cond_true,q7K,q7L]at e;obtain⟨rfl,rfl⟩:=e
       simp only[q6s]at hc;have q1:=q7e hc.1;have q2:=q7e hc.2;subst q1 q2;have e1:c.take pre.length=pre:=hvc _ q6W;have e2:post'=post:=hvc _ (by simp);have e3:n=l.length:=hvc _ (by simp);obtain⟨p1,p2⟩:=AllP.app (λp hp=>hvc p (q6V _ (q6V _ (q6V _ hp))));subst e2
       have hcc:c=pre++ .gs k n t.w nb'::post':=by
        have h9:=List.take_append_drop pre.length c;rw[e1,hd]at h9;exact h9.symm
       have hL1:qw st kb=some (.rig c):=by unfold qw;rw[h1]
       have hL2:qw st k=some (.gro t b' l):=by unfold qw;rw[h2]
       have e5: ∀x∈l,Bnd t b x:=by
        cases hle:b'.le b with
        |true=>exact λx hx=>Bnd.mono hle ((hk.l k _ hL2) x hx)
        |false=>rw[hle]at p2;exact p2 (∀x∈l,Bnd t b x) q6W
       have hok:WAs.ok c:=hk.l kb (.rig c) hL1;rw[hcc]at hok;obtain⟨o1,o2⟩:=WAs.ok_app.1 hok;have hnn:n<=nb':=(WAs.ok_cons.1 o2).1
       have e4:n<=nb:=by
        cases hle:Nat.ble nb' nb with
        |true=>have:=q7g hle;omega
        |false=>rw[hle]at p1;exact p1 (n<=nb) q6W
       refine⟨⟨⟨by show l.length<=nb;omega,e5⟩,o1,(WAs.ok_cons.1 o2).2⟩,λp hp=>by simp at hp,λp hp=>?_⟩;simp only[q6U,q72,or_false]at hp;rcases hp with rfl|rfl
       .refine⟨hr1,_,hL1,?_⟩
        show BImp kb (.rigid (WAs.exp c)) (.rigid (WAs.exp (pre++ .gs k l.length t.w nb::post')));rw[hcc,BL _ _ _ (.gs k n) rfl,BL _ _ _ (.gs k l.length) rfl,e3];exact λ_ _ _ h=>h
       .exact⟨hr2,_,hL2,λ_ _ _ h=>h⟩
     .cases e
    .cases e
   .cases e
  .cases e
 hren:=λhk h=>PC hk h
end Go.Proofs.YteeamcbonfkjcaaGreat.Sx
