/-
Own laws and walks for the claim, part 5: WRef7, WRef8, WYl, WYa1, WYa2, WYa3, WYa4, WZl, WYa5, WZm, WYb1, WVl, WVa1, WVa2, WOa1, WDl, WDa1. No condition.
-/
import Derived.Test.YtjemkhmahjnfaaaGreatP4
namespace Go.Proofs.YtjemkhmahjnfaaaGreat.Sx
open Go Go.Proofs
set_option linter.unusedVariables false
set_option linter.unusedSimpArgs false
set_option maxRecDepth 20000
set_option maxHeartbeats 4000000
abbrev ZU:FI:=⟨139,[.mag,.mag],[(.n 137438953536),(.n 137438953536)],fun z=>(fun(x:Nat)(y:Nat)=>[0<y]) z.1 z.2,fun b z=>(fun(x:Nat)(y:Nat)=> .tup [.one (.dt .mag (b0 b) (x/y)),.one (.dt .mag (b1 b) (x%y)),.one (.kn .i64 0)]) z.1 z.2⟩
theorem ZV:ZU.OK Tryz.prog:=jc hmix 163 Tryz.func139 rfl rfl (by decide) [(87,.c Fp),(109,.c KN),(138,.c Jm),(140,.c N9),(171,.c Nb),(172,.c WX),(194,.c St),(195,.c q1u),(197,.c Ub),(198,.c X0)] (fun(x:Nat)(y:Nat) b hx hp=>qY (qn ((Bnds.h2 hx).1.magLe (q2j _ _)) rfl) (qY (qn ((Bnds.h2 hx).2.magLe (q2p (q2y _ (hp _ (q24))))) rfl) (qY Un vG))) (fun(x:Nat)(y:Nat) hx hp=>by
 have hx0:qt x 137438953536:=hx.1
 have hl0:(limbs x).length≤4294967299:=qg (q2p hx0)
 have hx1:qt y 137438953536:=hx.2
 have hl1:(limbs y).length≤4294967299:=qg (q2p hx1)
 have hp0:0<y:=hp _ (q24)
 have hyp:=mt (nl0 (x:=y)).1 (show¬y=0 by omega)
 refine⟨.cond (.dead) (.cond (.nil) (.cond (.nil) (.cond (.nil) (.h 12 3 (.i .sub) (.h 12 4 (.mag (y/4294967296^((limbs y).length-1)) 32) (.h 12 6 (.i .sub) ((fun(s:Nat)=> .h 15 3 (.i .sub) ((fun(L:Nat)=> .h 15 5 (.mk (.arr (.nat .u32) (.n 4294967295))) (.loop [.s 15 (.int .i64) (.n 17179869184),.s 5 .mag (.n 137438953568),.a 82 (.nat .u32) (.n 4294967295)] (fun((z,r,ql):Int×Nat×List Nat)=>DX (x*2^s) (y*2^s) L z ql r) (fun((z,r,ql):Int×Nat×List Nat)=>(z+1).toNat) (fun((z,r,ql):Int×Nat×List Nat)=> .cond (.cond (.h 21 4 (.ix (z.toNat+(limbs (y*2^s)).length)) (.cond (.h 23 7 (.ix (z.toNat+(limbs (y*2^s)).length-1)) (.h 23 10 (.i (.n ((((limbs r).getD (z.toNat+(limbs (y*2^s)).length) 0)*2^32)+((limbs r).getD (z.toNat+(limbs (y*2^s)).length-1) 0)) 18446744073709551615)) (.h 25 3 (.i .sub) (.h 26 5 (.c zF) (.loop [.s 17 (.nat .u64) (.n 4294967295),.s 18 .mag (.n 1099511627776)] (fun((d,p):Nat×Nat)=>EX (y*2^s) z.toNat r d p) (fun((d,p):Nat×Nat)=>d) (fun((d,p):Nat×Nat)=> .cond (.h 28 1 (.i .sub) (.h 29 3 (.c zF) (.nil))) (.h 30 4 (.ix z.toNat) (.nil)))))))) (.h 25 3 (.i .sub) (.h 26 5 (.c zF) (.loop [.s 17 (.nat .u64) (.n 4294967295),.s 18 .mag (.n 1099511627776)] (fun((d,p):Nat×Nat)=>EX (y*2^s) z.toNat r d p) (fun((d,p):Nat×Nat)=>d) (fun((d,p):Nat×Nat)=> .cond (.h 28 1 (.i .sub) (.h 29 3 (.c zF) (.nil))) (.h 30 4 (.ix z.toNat) (.nil)))))))) (.cond (.h 23 7 (.ix (z.toNat+(limbs (y*2^s)).length-1)) (.h 23 10 (.i (.n (0+((limbs r).getD (z.toNat+(limbs (y*2^s)).length-1) 0)) 18446744073709551615)) (.h 25 3 (.i .sub) (.h 26 5 (.c zF) (.loop [.s 17 (.nat .u64) (.n 4294967295),.s 18 .mag (.n 1099511627776)] (fun((d,p):Nat×Nat)=>EX (y*2^s) z.toNat r d p) (fun((d,p):Nat×Nat)=>d) (fun((d,p):Nat×Nat)=> .cond (.h 28 1 (.i .sub) (.h 29 3 (.c zF) (.nil))) (.h 30 4 (.ix z.toNat) (.nil)))))))) (.h 25 3 (.i .sub) (.h 26 5 (.c zF) (.loop [.s 17 (.nat .u64) (.n 4294967295),.s 18 .mag (.n 1099511627776)] (fun((d,p):Nat×Nat)=>EX (y*2^s) z.toNat r d p) (fun((d,p):Nat×Nat)=>d) (fun((d,p):Nat×Nat)=> .cond (.h 28 1 (.i .sub) (.h 29 3 (.c zF) (.nil))) (.h 30 4 (.ix z.toNat) (.nil)))))))) (.pre 32 (.frz 82 true [4]) (.h 32 1 (.c AN) (.nil)))))) ((((limbs (x*2^s)).length) -((limbs (y*2^s)).length))+1))) (32-(bl (y/4294967296^((limbs y).length-1))))))))))),kcast (by kernel_rfl) (q1y (fun(h1:(limbs y).length=0)=>(absurd (nl0.1 h1) (by omega):False)) (fun(h2: ¬((limbs y).length=0))=>q1y (fun(h3:qJ x y<0)=>q1y ((Nat.div_eq_of_lt (jP.1 (by omega))).symm:0=x/y) ((q2x (jP.1 (by omega))).symm:x=x%y)) (fun(h4: ¬(qJ x y<0))=>have hyx:=(show y≤x from Nat.le_of_not_lt (mt jP.2 (by assumption)));have hly:=z7 hyx;q1y (fun(h5:xk x=true)=>have hlx:=(show(limbs x).length≤2 from of_decide_eq_true (by assumption));have hxx:=(xw_y hlx).1;have hxy:=(xw_y (x:=y) (by omega)).1;I (by omega:0<xw y) (I (by omega:0<xw y) (q1y (by rw[(xw_y (x:=x) (by assumption)).1,(xw_y (x:=y) (by omega)).1]:(xw x)/(xw y)=x/y) (by rw[(xw_y (x:=x) (by assumption)).1,(xw_y (x:=y) (by omega)).1]:(xw x)%(xw y)=x%y)))) (fun(h6: ¬(xk x=true))=>q1y (fun(h7:(limbs y).length=1)=>have hy1:=(show(limbs y).getD 0 0=y from PF (by omega));I (by omega:0<(limbs y).length) (I (by omega:0<(limbs y).getD 0 0) (q1y (by rw[hy1]:x/((limbs y).getD 0 0)=x/y) (by rw[hy1]:x%((limbs y).getD 0 0)=x%y)))) (fun(h8: ¬((limbs y).length=1))=>have hb32:=(DB IS:bl (y/4294967296^((limbs y).length-1))≤32);I (by omega:1≤(limbs y).length) (I (by omega:((limbs y).length) -1≤(limbs y).length) (I (DJ _ _:(limbs y).drop (((limbs y).length) -1)=limbs (y/4294967296^((limbs y).length-1))) (I (IS:qt (y/4294967296^((limbs y).length-1)) 32) (I (DB IS:bl (y/4294967296^((limbs y).length-1))≤32) ((fun(s:Nat)(hs:s=32-(bl (y/4294967296^((limbs y).length-1))))=>have hs32:=(show s≤32 by omega);have hV0:=(q2G hp0 (q2K (by omega)):0<y*2^s);have hVA:=(z7 (q2F _ hyx):(limbs (y*2^s)).length≤(limbs (x*2^s)).length);have hV1:=(q2H (mt nl0.1 (by omega)):0<(limbs (y*2^s)).length);have hvt:=zV hV1;I (by omega:(limbs (y*2^s)).length≤(limbs (x*2^s)).length) ((fun(L:Nat)(hL:L=(((limbs (x*2^s)).length) -((limbs (y*2^s)).length))+1)=>I (by omega:L=L) (I (by subst hL;exact DX.start (n:=(limbs (y*2^s)).length) (by omega) rfl (by omega) rfl:DX (x*2^s) (y*2^s) L ((((limbs (x*2^s)).length:Nat):Int) -(((limbs (y*2^s)).length:Nat):Int)) (List.replicate L (0:Nat)) (x*2^s)) (fun(z:Int)(r:Nat)(ql:List Nat)(hb9:HB [.s 15 (.int .i64) (.n 17179869184),.s 5 .mag (.n 137438953568),.a 82 (.nat .u32) (.n 4294967295)] (z,r,ql))(hD:DX (x*2^s) (y*2^s) L z ql r)=>have hv34:=(show Int.natAbs z≤17179869184 from hb9.1);have hv35:=(show∀u∈ql,u≤4294967295 from hb9.2.2);have hDz:=hD.hz;have hDz1:=hD.hz1;have hDl:=hD.hl;q1y (fun(h10:0≤z)=>have hr1:=qc r (z.toNat+(limbs (y*2^s)).length);have hr2:=qc r (z.toNat+(limbs (y*2^s)).length-1);q1y (fun(h11:z+(((limbs (y*2^s)).length:Nat):Int)<(((limbs r).length:Nat):Int))=>I (by omega:z+(((limbs (y*2^s)).length:Nat):Int)=((z.toNat+(limbs (y*2^s)).length:Nat):Int)) (I (by omega:z.toNat+(limbs (y*2^s)).length<(limbs r).length) (q1y (fun(h12:(z+(((limbs (y*2^s)).length:Nat):Int)) -1<(((limbs r).length:Nat):Int))=>I (by omega:(z+(((limbs (y*2^s)).length:Nat):Int)) -1=((z.toNat+(limbs (y*2^s)).length-1:Nat):Int)) (I (by omega:z.toNat+(limbs (y*2^s)).length-1<(limbs r).length) (I (Cg _ 32 rfl (qc _ _) (by omega):qL .or .u64 ((((limbs r).getD (z.toNat+(limbs (y*2^s)).length) 0)*2^32:Nat):Int) (((limbs r).getD (z.toNat+(limbs (y*2^s)).length-1) 0:Nat):Int) (((((limbs r).getD (z.toNat+(limbs (y*2^s)).length) 0)*2^32)+((limbs r).getD (z.toNat+(limbs (y*2^s)).length-1) 0):Nat):Int)) (I (by omega:(((limbs r).getD (z.toNat+(limbs (y*2^s)).length) 0)*2^32)+((limbs r).getD (z.toNat+(limbs (y*2^s)).length-1) 0)≤18446744073709551615) (have hT:=(show(((limbs r).getD (z.toNat+(limbs (y*2^s)).length) 0)*2^32)+((limbs r).getD (z.toNat+(limbs (y*2^s)).length-1) 0)=(limbs r).getD (z.toNat+(limbs (y*2^s)).length) 0*4294967296+(limbs r).getD (z.toNat+(limbs (y*2^s)).length-1) 0 from by(have hq1:= @qy (limbs r) (z.toNat+(limbs (y*2^s)).length);have hq2:= @qy (limbs r) (z.toNat+(limbs (y*2^s)).length-1);omega));I (by omega:1≤(limbs (y*2^s)).length) (I (by omega:((limbs (y*2^s)).length) -1<(limbs (y*2^s)).length) (I (by omega:0<(limbs (y*2^s)).getD (((limbs (y*2^s)).length) -1) 0) (I (by omega:0≤z) (I (hD.est (by omega) rfl hV0 (by omega) rfl hT:EX (y*2^s) z.toNat r (min (((((limbs r).getD (z.toNat+(limbs (y*2^s)).length) 0)*2^32)+((limbs r).getD (z.toNat+(limbs (y*2^s)).length-1) 0))/((limbs (y*2^s)).getD (((limbs (y*2^s)).length) -1) 0)) 4294967295) (((y*2^s)*(min (((((limbs r).getD (z.toNat+(limbs (y*2^s)).length) 0)*2^32)+((limbs r).getD (z.toNat+(limbs (y*2^s)).length-1) 0))/((limbs (y*2^s)).getD (((limbs (y*2^s)).length) -1) 0)) 4294967295))*4294967296^z.toNat)) (fun(d:Nat)(p:Nat)(hb13:HB [.s 17 (.nat .u64) (.n 4294967295),.s 18 .mag (.n 1099511627776)] (d,p))(hE:EX (y*2^s) z.toNat r d p)=>have hv16:=(show d≤4294967295 from hb13.1);q1y (fun(h14:0<qJ p r)=>have hG:=hE.gt hV0 (Ad.1 (by assumption));I (by omega:1≤d) (I (by omega:0≤z) (I (hG.2.1:(y*2^s)*4294967296^z.toNat≤p) (q1y (hG.2.2:EX (y*2^s) z.toNat r (d-1) (p-((y*2^s)*4294967296^z.toNat))) (by have:=hG.1;omega:d-1<d))))) (fun(h15: ¬(0<qJ p r))=>have hle:=(show p≤r from Nat.le_of_not_lt (mt Ad.2 (by assumption)));I (by omega:z=((z.toNat:Nat):Int)) (I (by omega:z.toNat<L) (I (by omega:z.toNat<ql.length) (I (hle:p≤r) (I (show Int.natAbs (z-1)≤17179869184 by omega:Bnd (.int .i64) (.n 17179869184) (z-1)) (q1y (hD.next (by omega) rfl hV0 hE hle:DX (x*2^s) (y*2^s) L (z-1) (ql.set z.toNat d) (r-p)) (by omega:((z-1)+1).toNat<(z+1).toNat))))))))))))))))) (fun(h17: ¬((z+(((limbs (y*2^s)).length:Nat):Int)) -1<(((limbs r).length:Nat):Int)))=>have hT:=(show((limbs r).getD (z.toNat+(limbs (y*2^s)).length) 0)*2^32=(limbs r).getD (z.toNat+(limbs (y*2^s)).length) 0*4294967296+(limbs r).getD (z.toNat+(limbs (y*2^s)).length-1) 0 from by(have hq1:= @qy (limbs r) (z.toNat+(limbs (y*2^s)).length);have hq2:= @qy (limbs r) (z.toNat+(limbs (y*2^s)).length-1);omega));I (by omega:1≤(limbs (y*2^s)).length) (I (by omega:((limbs (y*2^s)).length) -1<(limbs (y*2^s)).length) (I (by omega:0<(limbs (y*2^s)).getD (((limbs (y*2^s)).length) -1) 0) (I (by omega:0≤z) (I (hD.est (by omega) rfl hV0 (by omega) rfl hT:EX (y*2^s) z.toNat r (min ((((limbs r).getD (z.toNat+(limbs (y*2^s)).length) 0)*2^32)/((limbs (y*2^s)).getD (((limbs (y*2^s)).length) -1) 0)) 4294967295) (((y*2^s)*(min ((((limbs r).getD (z.toNat+(limbs (y*2^s)).length) 0)*2^32)/((limbs (y*2^s)).getD (((limbs (y*2^s)).length) -1) 0)) 4294967295))*4294967296^z.toNat)) (fun(d:Nat)(p:Nat)(hb18:HB [.s 17 (.nat .u64) (.n 4294967295),.s 18 .mag (.n 1099511627776)] (d,p))(hE:EX (y*2^s) z.toNat r d p)=>have hv21:=(show d≤4294967295 from hb18.1);q1y (fun(h19:0<qJ p r)=>have hG:=hE.gt hV0 (Ad.1 (by assumption));I (by omega:1≤d) (I (by omega:0≤z) (I (hG.2.1:(y*2^s)*4294967296^z.toNat≤p) (q1y (hG.2.2:EX (y*2^s) z.toNat r (d-1) (p-((y*2^s)*4294967296^z.toNat))) (by have:=hG.1;omega:d-1<d))))) (fun(h20: ¬(0<qJ p r))=>have hle:=(show p≤r from Nat.le_of_not_lt (mt Ad.2 (by assumption)));I (by omega:z=((z.toNat:Nat):Int)) (I (by omega:z.toNat<L) (I (by omega:z.toNat<ql.length) (I (hle:p≤r) (I (show Int.natAbs (z-1)≤17179869184 by omega:Bnd (.int .i64) (.n 17179869184) (z-1)) (q1y (hD.next (by omega) rfl hV0 hE hle:DX (x*2^s) (y*2^s) L (z-1) (ql.set z.toNat d) (r-p)) (by omega:((z-1)+1).toNat<(z+1).toNat)))))))))))))))) (fun(h22: ¬(z+(((limbs (y*2^s)).length:Nat):Int)<(((limbs r).length:Nat):Int)))=>q1y (fun(h23:(z+(((limbs (y*2^s)).length:Nat):Int)) -1<(((limbs r).length:Nat):Int))=>I (by omega:(z+(((limbs (y*2^s)).length:Nat):Int)) -1=((z.toNat+(limbs (y*2^s)).length-1:Nat):Int)) (I (by omega:z.toNat+(limbs (y*2^s)).length-1<(limbs r).length) (I (Xk (qc _ _):qL .or .u64 0 (((limbs r).getD (z.toNat+(limbs (y*2^s)).length-1) 0:Nat):Int) ((0+((limbs r).getD (z.toNat+(limbs (y*2^s)).length-1) 0):Nat):Int)) (I (by omega:0+((limbs r).getD (z.toNat+(limbs (y*2^s)).length-1) 0)≤18446744073709551615) (have hT:=(show 0+((limbs r).getD (z.toNat+(limbs (y*2^s)).length-1) 0)=(limbs r).getD (z.toNat+(limbs (y*2^s)).length) 0*4294967296+(limbs r).getD (z.toNat+(limbs (y*2^s)).length-1) 0 from by(have hq1:= @qy (limbs r) (z.toNat+(limbs (y*2^s)).length);have hq2:= @qy (limbs r) (z.toNat+(limbs (y*2^s)).length-1);omega));I (by omega:1≤(limbs (y*2^s)).length) (I (by omega:((limbs (y*2^s)).length) -1<(limbs (y*2^s)).length) (I (by omega:0<(limbs (y*2^s)).getD (((limbs (y*2^s)).length) -1) 0) (I (by omega:0≤z) (I (hD.est (by omega) rfl hV0 (by omega) rfl hT:EX (y*2^s) z.toNat r (min ((0+((limbs r).getD (z.toNat+(limbs (y*2^s)).length-1) 0))/((limbs (y*2^s)).getD (((limbs (y*2^s)).length) -1) 0)) 4294967295) (((y*2^s)*(min ((0+((limbs r).getD (z.toNat+(limbs (y*2^s)).length-1) 0))/((limbs (y*2^s)).getD (((limbs (y*2^s)).length) -1) 0)) 4294967295))*4294967296^z.toNat)) (fun(d:Nat)(p:Nat)(hb24:HB [.s 17 (.nat .u64) (.n 4294967295),.s 18 .mag (.n 1099511627776)] (d,p))(hE:EX (y*2^s) z.toNat r d p)=>have hv27:=(show d≤4294967295 from hb24.1);q1y (fun(h25:0<qJ p r)=>have hG:=hE.gt hV0 (Ad.1 (by assumption));I (by omega:1≤d) (I (by omega:0≤z) (I (hG.2.1:(y*2^s)*4294967296^z.toNat≤p) (q1y (hG.2.2:EX (y*2^s) z.toNat r (d-1) (p-((y*2^s)*4294967296^z.toNat))) (by have:=hG.1;omega:d-1<d))))) (fun(h26: ¬(0<qJ p r))=>have hle:=(show p≤r from Nat.le_of_not_lt (mt Ad.2 (by assumption)));I (by omega:z=((z.toNat:Nat):Int)) (I (by omega:z.toNat<L) (I (by omega:z.toNat<ql.length) (I (hle:p≤r) (I (show Int.natAbs (z-1)≤17179869184 by omega:Bnd (.int .i64) (.n 17179869184) (z-1)) (q1y (hD.next (by omega) rfl hV0 hE hle:DX (x*2^s) (y*2^s) L (z-1) (ql.set z.toNat d) (r-p)) (by omega:((z-1)+1).toNat<(z+1).toNat))))))))))))))))) (fun(h28: ¬((z+(((limbs (y*2^s)).length:Nat):Int)) -1<(((limbs r).length:Nat):Int)))=>have hT:=(show 0=(limbs r).getD (z.toNat+(limbs (y*2^s)).length) 0*4294967296+(limbs r).getD (z.toNat+(limbs (y*2^s)).length-1) 0 from by(have hq1:= @qy (limbs r) (z.toNat+(limbs (y*2^s)).length);have hq2:= @qy (limbs r) (z.toNat+(limbs (y*2^s)).length-1);omega));I (by omega:1≤(limbs (y*2^s)).length) (I (by omega:((limbs (y*2^s)).length) -1<(limbs (y*2^s)).length) (I (by omega:0<(limbs (y*2^s)).getD (((limbs (y*2^s)).length) -1) 0) (I (by omega:0≤z) (I (hD.est (by omega) rfl hV0 (by omega) rfl hT:EX (y*2^s) z.toNat r (min (0/((limbs (y*2^s)).getD (((limbs (y*2^s)).length) -1) 0)) 4294967295) (((y*2^s)*(min (0/((limbs (y*2^s)).getD (((limbs (y*2^s)).length) -1) 0)) 4294967295))*4294967296^z.toNat)) (fun(d:Nat)(p:Nat)(hb29:HB [.s 17 (.nat .u64) (.n 4294967295),.s 18 .mag (.n 1099511627776)] (d,p))(hE:EX (y*2^s) z.toNat r d p)=>have hv32:=(show d≤4294967295 from hb29.1);q1y (fun(h30:0<qJ p r)=>have hG:=hE.gt hV0 (Ad.1 (by assumption));I (by omega:1≤d) (I (by omega:0≤z) (I (hG.2.1:(y*2^s)*4294967296^z.toNat≤p) (q1y (hG.2.2:EX (y*2^s) z.toNat r (d-1) (p-((y*2^s)*4294967296^z.toNat))) (by have:=hG.1;omega:d-1<d))))) (fun(h31: ¬(0<qJ p r))=>have hle:=(show p≤r from Nat.le_of_not_lt (mt Ad.2 (by assumption)));I (by omega:z=((z.toNat:Nat):Int)) (I (by omega:z.toNat<L) (I (by omega:z.toNat<ql.length) (I (hle:p≤r) (I (show Int.natAbs (z-1)≤17179869184 by omega:Bnd (.int .i64) (.n 17179869184) (z-1)) (q1y (hD.next (by omega) rfl hV0 hE hle:DX (x*2^s) (y*2^s) L (z-1) (ql.set z.toNat d) (r-p)) (by omega:((z-1)+1).toNat<(z+1).toNat))))))))))))))) (fun(h33: ¬(0≤z))=>I (by omega:L=ql.length) (have hF:=hD.fin hp0 (by omega);I (hD.hu: ∀u∈ql,u<4294967296) (q1y (hF.1:q9 ql=x/y) (hF.2:r/2^s=x%y))))))) ((((limbs (x*2^s)).length) -((limbs (y*2^s)).length))+1) rfl)) (32-(bl (y/4294967296^((limbs y).length-1)))) rfl))))))))))⟩)
abbrev Sw:Ctr Tryz.prog:=FI.c ZV
abbrev ZX:FI:=⟨111,[.mag,.mag],[(.n 137438953536),(.n 137438953536)],fun _=>[],fun b z=>(fun(x:Nat)(y:Nat)=> .c (.one (.dt .mag (.n (max (b0 b).nb (b1 b).nb)) (Nat.gcd x y)))) z.1 z.2⟩
theorem ZY:ZX.OK Tryz.prog:=jc hmix 51 Tryz.func111 rfl rfl (by decide) [(109,.c KN),(138,.c Jm),(139,.c Sw),(171,.c Nb)] (fun(x:Nat)(y:Nat) b hx hp=>qn (Od (Bnds.h2 hx).1.mag (Bnds.h2 hx).2.mag) rfl) (fun(x:Nat)(y:Nat) hx hp=>by
 have hx0:qt x 137438953536:=hx.1
 have hl0:(limbs x).length≤4294967299:=qg (q2p hx0)
 have hx1:qt y 137438953536:=hx.2
 have hl1:(limbs y).length≤4294967299:=qg (q2p hx1)
 refine⟨.loop [.s 0 .mag (.n 137438953536),.s 1 .mag (.n 137438953536)] (fun((a,b):Nat×Nat)=>Nat.gcd a b=Nat.gcd x y) (fun((a,b):Nat×Nat)=>b) (fun((a,b):Nat×Nat)=> .cond (.cond (.cond (.loop [.s 5 (.nat .u64) (.n 18446744073709551615),.s 7 (.nat .u64) (.n 18446744073709551615)] (fun((u,v):Nat×Nat)=>Nat.gcd u v=Nat.gcd x y) (fun((u,v):Nat×Nat)=>v) (fun((u,v):Nat×Nat)=> .nil)) (.nil)) (.nil)) (.nil)),kcast (by kernel_rfl) (I (rfl:Nat.gcd x y=Nat.gcd x y) (fun(a:Nat)(b:Nat)(hb1:HB [.s 0 .mag (.n 137438953536),.s 1 .mag (.n 137438953536)] (a,b))(hC:Nat.gcd a b=Nat.gcd x y)=>Sp (0<(limbs b).length) (fun h2=>Sp (xk a=true) (fun h3=>Sp (xk b=true) (fun h4=>I (by rw[(xw_y (x:=a) (of_decide_eq_true (by assumption))).1,(xw_y (x:=b) (of_decide_eq_true (by assumption))).1];exact hC:Nat.gcd (xw a) (xw b)=Nat.gcd x y) (fun(u:Nat)(v:Nat)(hb5:HB [.s 5 (.nat .u64) (.n 18446744073709551615),.s 7 (.nat .u64) (.n 18446744073709551615)] (u,v))(hK:Nat.gcd u v=Nat.gcd x y)=>have hv8:=(show u≤18446744073709551615 from hb5.1);have hv9:=(show v≤18446744073709551615 from hb5.2);Sp (v≠0) (fun h6=>I (?_:0<v) (q1y ((zJ u v).trans hK:Nat.gcd v (u%v)=Nat.gcd x y) (q2y _ (by omega):u%v<v))) (fun h7=>(by rw[show v=0 by omega,Nat.gcd_zero_right]at hK;exact hK:u=Nat.gcd x y)))) (fun h10=>have hb0:=(show 0<b from q2H (fun e=>by have:=nl0.2 e;omega));I (hb0:0<b) (q1y ((zJ a b).trans hC:Nat.gcd b (a%b)=Nat.gcd x y) (q2y _ hb0:a%b<b)))) (fun h11=>have hb0:=(show 0<b from q2H (fun e=>by have:=nl0.2 e;omega));I (hb0:0<b) (q1y ((zJ a b).trans hC:Nat.gcd b (a%b)=Nat.gcd x y) (q2y _ hb0:a%b<b)))) (fun h12=>(by have e:=nl0.1 (show(limbs b).length=0 by omega);rw[e,Nat.gcd_zero_right]at hC;exact hC:a=Nat.gcd x y))))⟩<;>omega)
abbrev ZW:Ctr Tryz.prog:=FI.c ZY
def dm(d:Nat):Nat:=if d=1 then 0 else d
theorem NJ(d:Nat):denL d=limbs (dm d):=by unfold denL dm;split<;>rfl
theorem QD{d b:Nat}(h:le2 d b):qt (dm d) (b+1):=by
 unfold dm;split
 ·exact q2K (by omega)
 ·exact Ah h
theorem Yf{d e:Nat}(hd:d≠0)(he:e≠0):qJ (dm d) (dm e)=0↔d=e:=by
 rw[D2];unfold dm;split<;>split<;>omega
theorem ysame{x y:Rat}(h: ¬decide (x.num<0)=decide (y.num<0)∨ ¬qJ x.num.natAbs y.num.natAbs=0∨ ¬qJ (dm x.den) (dm y.den)=0):false=decide (x=y):=by
 symm;apply decide_eq_false
 intro e;subst e
 rcases h with h|h|h
 ·exact h rfl
 ·exact h (D2.2 rfl)
 ·exact h (D2.2 rfl)
theorem q0i{x y:Rat}(h1:decide (x.num<0)=decide (y.num<0))(h2:qJ x.num.natAbs y.num.natAbs=0):decide (qJ (dm x.den) (dm y.den)=0)=decide (x=y):=by
 have e:qJ (dm x.den) (dm y.den)=0↔x=y:=by
  rw[Yf x.den_nz y.den_nz,Ec x y]
  constructor
  ·intro h;exact⟨h1,by rw[D2.1 h2],by rw[h]⟩
  ·rintro⟨_,_,h⟩;exact zH x.den_nz y.den_nz h
 rw[decide_eq_decide];exact e
theorem IW(x:Rat):(-x).num.natAbs=x.num.natAbs:=by rw[Rat.neg_num,Int.natAbs_neg]
theorem De{x:Rat}{b:Bd}(h:Bnd .rat b x):Bnd .rat (.n b.nb) (-x):=by
 have h1:=h.rat
 exact⟨by rw[IW];exact h1.1,by rw[Rat.neg_den];exact h1.2⟩
theorem YL{x:Rat}(h: ¬x.num<0):decide (0<(limbs x.num.natAbs).length)=decide ((-x).num<0):=by
 rw[decide_eq_decide,Rat.neg_num]
 have:= @nl0 x.num.natAbs
 omega
theorem YM{x:Rat}(h:x.num<0):false=decide ((-x).num<0):=by
 symm;apply decide_eq_false;rw[Rat.neg_num];omega
theorem BG(v:Int):((v:Rat)).num=v:=Rat.num_intCast v
theorem FJ(v:Int):((v:Rat)).den=1:=Rat.den_intCast v
def mkC'(d:Int):Int:=if d=0 then 3 else 0
theorem Uo(d:Int):(mkC' d).natAbs≤3:=by unfold mkC';split<;>decide
theorem IT(n d:Int):qd (decide (decide (n<0)≠decide (d<0))) n.natAbs d.natAbs=(n:Rat)/(d:Rat):=by
 by_cases h:d=0
 ·subst h;simp[Dr,Rat.div_def]
 ·have:=F3 (x:=(n:Rat)) (y:=(d:Rat)) (by rw[BG];omega)
  rw[BG,BG,FJ,FJ,Nat.mul_one,Nat.one_mul]at this
  exact this
theorem GH{n d:Int}{b c:Nat}(hn:n.natAbs≤b)(hd:d.natAbs≤c):Bnd .rat (.n (max (Nat.log2 b+1) (Nat.log2 c+1))) ((n:Rat)/(d:Rat)):=by
 rw[←IT]
 exact GW (qb (Nat.le_max_left _ _) (zB hn)) (qb (Nat.le_max_right _ _) (zB hd))
abbrev Xf:FI:=⟨16,[.rat],[(.n 68719476736)],fun _=>[],fun b z=>(fun(x:Rat)=> .c (.one (.dt (.int .i64) (.n 1) (jk x)))) z⟩
theorem P0:Xf.OK Tryz.prog:=jc hmix 9 Tryz.func16 rfl rfl (by decide) [] (fun(x:Rat) b hx hp=>qn (Mz x) rfl) (fun(x:Rat) hx hp=>by
 refine⟨.nil,kcast (by kernel_rfl) (Sp ((limbs x.num.natAbs).length=0) (fun h1=>(by rw[jk,if_pos (nl0.1 (by assumption))]:0=jk x)) (fun h2=>Sp (x.num<0) (fun h3=>(by rw[jk,if_neg (mt nl0.2 (by assumption)),if_pos (by assumption)]:(-1)=jk x)) (fun h4=>(by rw[jk,if_neg (mt nl0.2 (by assumption)),if_neg (by assumption)]:1=jk x))))⟩)
abbrev Xe:Ctr Tryz.prog:=FI.c P0
abbrev q08:FI:=⟨84,[.rat],[(.n 1099511627776)],fun _=>[],fun b z=>(fun(x:Rat)=> .c (.one (.dt .mag (.n ((b0 b).nb+1)) (x.den)))) z⟩
theorem q09:q08.OK Tryz.prog:=jc hmix 10 Tryz.func84 rfl rfl (by decide) [] (fun(x:Rat) b hx hp=>qn (Ah (Bnds.h1 hx).rat.2) rfl) (fun(x:Rat) hx hp=>by
 have hx0:Bnd .rat (.n 1099511627776) x:=hx
 refine⟨.cond (.h 2 0 (.mk (.im (.nat .u32) (.n 4294967295))) (.h 2 1 (.mag 1 1) (.nil))) (.h 3 1 (.mag x.den 1099511627777) (.nil)),kcast (by kernel_rfl) (Sp ((denL x.den).length=0) (fun h1=>I (Cu.symm:[1]=limbs 1) (I (IR rfl:qt 1 1) (((BU x.den_nz (by omega)).symm:1=x.den)))) (fun h2=>I (wG (by omega):denL x.den=limbs x.den) (I (Ah hx0.2:qt x.den 1099511627777) ((Eq.refl x.den)))))⟩)
abbrev It:Ctr Tryz.prog:=FI.c q09
abbrev Xg:FI:=⟨58,[(.int .i64)],[(.n 4611686018427387904)],fun _=>[],fun b z=>(fun(v:Int)=> .tup [(.one (.dt .mag (.n (Nat.log2 (b0 b).nb+1)) (v.natAbs))),.one (.dt .bool .u (decide (v<0)))]) z⟩
theorem Xh:Xg.OK Tryz.prog:=jc hmix 15 Tryz.func58 rfl rfl (by decide) [(109,.c KN)] (fun(v:Int) b hx hp=>qY (qn (zB (Bnds.h1 hx).int) rfl) (qY (qn trivial rfl) vG)) (fun(v:Int) hx hp=>by
 have hx0:Int.natAbs v≤4611686018427387904:=hx
 refine⟨.cond (.h 2 3 (.i (.n (v.natAbs-1) 4611686018427387904)) (.nil)) (.h 3 1 (.i (.n v.natAbs 4611686018427387904)) (.nil)),kcast (by kernel_rfl) (Sp (v<0) (fun h1=>I (by rw[show-(v+1)=((v.natAbs-1:Nat):Int) by omega];exact wC (by omega):IntKind.wrap .u64 (-(v+1))=((v.natAbs-1:Nat):Int)) (I (?_:v.natAbs-1≤4611686018427387904) (q1y (?_:(v.natAbs-1)+1=v.natAbs) ((decide_eq_true (by assumption)).symm:true=decide (v<0))))) (fun h2=>I (by rw[show v=((v.natAbs:Nat):Int) by omega];exact wC (by omega):IntKind.wrap .u64 v=((v.natAbs:Nat):Int)) (I (?_:v.natAbs≤4611686018427387904) (q1y (Eq.refl v.natAbs) ((decide_eq_false (by assumption)).symm:false=decide (v<0))))))⟩<;>omega)
abbrev P1:Ctr Tryz.prog:=FI.c Xh
abbrev SD:FI:=⟨85,[.bool,.mag,.mag],[.u,(.n 137438953536),(.n 137438953536)],fun z=>(fun(neg:Bool)(n:Nat)(d:Nat)=>[0<d]) z.1 z.2.1 z.2.2,fun b z=>(fun(neg:Bool)(n:Nat)(d:Nat)=> .c (.agg [.dt .rat (.n (max (b1 b).nb (b2 b).nb)) (qd neg n d)])) z.1 z.2.1 z.2.2⟩
theorem SF:SD.OK Tryz.prog:=jc hmix 55 Tryz.func85 rfl rfl (by decide) [(111,.c ZW),(138,.c Jm),(139,.c Sw)] (fun(neg:Bool)(n:Nat)(d:Nat) b hx hp=>jC (GW (qb (Nat.le_max_left _ _) (Bnds.h3 hx).2.1.mag) (qb (Nat.le_max_right _ _) (Bnds.h3 hx).2.2.mag))) (fun(neg:Bool)(n:Nat)(d:Nat) hx hp=>by
 have hx1:qt n 137438953536:=hx.2.1
 have hl1:(limbs n).length≤4294967299:=qg (q2p hx1)
 have hx2:qt d 137438953536:=hx.2.2
 have hl2:(limbs d).length≤4294967299:=qg (q2p hx2)
 have hp0:0<d:=hp _ (q24)
 refine⟨.cond (.nil) ((fun(g:Nat)=> .cond (.cond (.cond (.h 10 3 (.rat (qd neg n d) 137438953536) (.nil)) (.h 10 3 (.rat (qd neg n d) 137438953536) (.nil))) (.h 10 3 (.rat (qd neg n d) 137438953536) (.nil))) (.cond (.cond (.cond (.h 10 3 (.rat (qd neg n d) 137438953536) (.nil)) (.h 10 3 (.rat (qd neg n d) 137438953536) (.nil))) (.h 10 3 (.rat (qd neg n d) 137438953536) (.nil))) (.cond (.cond (.h 10 3 (.rat (qd neg n d) 137438953536) (.nil)) (.h 10 3 (.rat (qd neg n d) 137438953536) (.nil))) (.h 10 3 (.rat (qd neg n d) 137438953536) (.nil))))) (Nat.gcd n d)),kcast (by kernel_rfl) (q1y (fun(h1:(limbs n).length=0)=>(by rw[nl0.1 (show(limbs n).length=0 by assumption),wv]:0=qd neg n d)) (fun(h2: ¬((limbs n).length=0))=>have hn0:=(show 0<n from q2H (mt nl0.2 (by omega)));have hd0:=hp0;(fun(g:Nat)(hg:g=Nat.gcd n d)=>have hg0:=(show 0<g from hg▸Nat.gcd_pos_of_pos_right _ hd0);have hgl:=(q2H (mt nl0.1 (show¬g=0 by omega)):0<(limbs g).length);q1y (fun(h3:(limbs g).length≠1)=>I (by omega:0<g) (I (by omega:0<g) (q1y (fun(h4:(limbs (d/g)).length=1)=>I (by omega:0<(limbs (d/g)).length) (q1y (fun(h5:(limbs (d/g)).getD 0 0=1)=>I ((jt hn0 hd0).symm:neg=decide ((qd neg n d).num<0)) (I (by rw[ji hd0,←hg]<;>first|rfl|(rw[hg1,q2l]<;>rfl):n/g=(qd neg n d).num.natAbs) (I (by rw[(j4 hd0).2,←hg];first|exact vM (by omega) (by omega)|(rw[hg1,q2l];exact vM (by omega) (by omega)):(qd neg n d).den=1) (I ((qz (p:=137438953536) (qb (by decide) hx1) (qI (qb (by decide) hx2)) hd0).1:qt (qd neg n d).num.natAbs 137438953536) (I ((qz (p:=137438953536) (qb (by decide) hx1) (qI (qb (by decide) hx2)) hd0).2:le2 (qd neg n d).den 137438953536) ((Eq.refl (qd neg n d)))))))) (fun(h6: ¬((limbs (d/g)).getD 0 0=1))=>I ((jt hn0 hd0).symm:neg=decide ((qd neg n d).num<0)) (I (by rw[ji hd0,←hg]<;>first|rfl|(rw[hg1,q2l]<;>rfl):n/g=(qd neg n d).num.natAbs) (I (vE (by rw[(j4 hd0).2,←hg]<;>first|rfl|(rw[hg1,q2l]<;>rfl)) (by omega):limbs (d/g)=denL (qd neg n d).den) (I ((qz (p:=137438953536) (qb (by decide) hx1) (qI (qb (by decide) hx2)) hd0).1:qt (qd neg n d).num.natAbs 137438953536) (I ((qz (p:=137438953536) (qb (by decide) hx1) (qI (qb (by decide) hx2)) hd0).2:le2 (qd neg n d).den 137438953536) ((Eq.refl (qd neg n d)))))))))) (fun(h7: ¬((limbs (d/g)).length=1))=>I ((jt hn0 hd0).symm:neg=decide ((qd neg n d).num<0)) (I (by rw[ji hd0,←hg]<;>first|rfl|(rw[hg1,q2l]<;>rfl):n/g=(qd neg n d).num.natAbs) (I (vE (by rw[(j4 hd0).2,←hg]<;>first|rfl|(rw[hg1,q2l]<;>rfl)) (by omega):limbs (d/g)=denL (qd neg n d).den) (I ((qz (p:=137438953536) (qb (by decide) hx1) (qI (qb (by decide) hx2)) hd0).1:qt (qd neg n d).num.natAbs 137438953536) (I ((qz (p:=137438953536) (qb (by decide) hx1) (qI (qb (by decide) hx2)) hd0).2:le2 (qd neg n d).den 137438953536) ((Eq.refl (qd neg n d))))))))))) (fun(h8: ¬((limbs g).length≠1))=>I (by omega:0<(limbs g).length) (q1y (fun(h9:(limbs g).getD 0 0≠1)=>I (by omega:0<g) (I (by omega:0<g) (q1y (fun(h10:(limbs (d/g)).length=1)=>I (by omega:0<(limbs (d/g)).length) (q1y (fun(h11:(limbs (d/g)).getD 0 0=1)=>I ((jt hn0 hd0).symm:neg=decide ((qd neg n d).num<0)) (I (by rw[ji hd0,←hg]<;>first|rfl|(rw[hg1,q2l]<;>rfl):n/g=(qd neg n d).num.natAbs) (I (by rw[(j4 hd0).2,←hg];first|exact vM (by omega) (by omega)|(rw[hg1,q2l];exact vM (by omega) (by omega)):(qd neg n d).den=1) (I ((qz (p:=137438953536) (qb (by decide) hx1) (qI (qb (by decide) hx2)) hd0).1:qt (qd neg n d).num.natAbs 137438953536) (I ((qz (p:=137438953536) (qb (by decide) hx1) (qI (qb (by decide) hx2)) hd0).2:le2 (qd neg n d).den 137438953536) ((Eq.refl (qd neg n d)))))))) (fun(h12: ¬((limbs (d/g)).getD 0 0=1))=>I ((jt hn0 hd0).symm:neg=decide ((qd neg n d).num<0)) (I (by rw[ji hd0,←hg]<;>first|rfl|(rw[hg1,q2l]<;>rfl):n/g=(qd neg n d).num.natAbs) (I (vE (by rw[(j4 hd0).2,←hg]<;>first|rfl|(rw[hg1,q2l]<;>rfl)) (by omega):limbs (d/g)=denL (qd neg n d).den) (I ((qz (p:=137438953536) (qb (by decide) hx1) (qI (qb (by decide) hx2)) hd0).1:qt (qd neg n d).num.natAbs 137438953536) (I ((qz (p:=137438953536) (qb (by decide) hx1) (qI (qb (by decide) hx2)) hd0).2:le2 (qd neg n d).den 137438953536) ((Eq.refl (qd neg n d)))))))))) (fun(h13: ¬((limbs (d/g)).length=1))=>I ((jt hn0 hd0).symm:neg=decide ((qd neg n d).num<0)) (I (by rw[ji hd0,←hg]<;>first|rfl|(rw[hg1,q2l]<;>rfl):n/g=(qd neg n d).num.natAbs) (I (vE (by rw[(j4 hd0).2,←hg]<;>first|rfl|(rw[hg1,q2l]<;>rfl)) (by omega):limbs (d/g)=denL (qd neg n d).den) (I ((qz (p:=137438953536) (qb (by decide) hx1) (qI (qb (by decide) hx2)) hd0).1:qt (qd neg n d).num.natAbs 137438953536) (I ((qz (p:=137438953536) (qb (by decide) hx1) (qI (qb (by decide) hx2)) hd0).2:le2 (qd neg n d).den 137438953536) ((Eq.refl (qd neg n d))))))))))) (fun(h14: ¬((limbs g).getD 0 0≠1))=>have hg1:=(vM (by omega) (by omega):g=1);q1y (fun(h15:(limbs d).length=1)=>I (by omega:0<(limbs d).length) (q1y (fun(h16:(limbs d).getD 0 0=1)=>I ((jt hn0 hd0).symm:neg=decide ((qd neg n d).num<0)) (I (by rw[ji hd0,←hg]<;>first|rfl|(rw[hg1,q2l]<;>rfl):n=(qd neg n d).num.natAbs) (I (by rw[(j4 hd0).2,←hg];first|exact vM (by omega) (by omega)|(rw[hg1,q2l];exact vM (by omega) (by omega)):(qd neg n d).den=1) (I ((qz (p:=137438953536) (qb (by decide) hx1) (qI (qb (by decide) hx2)) hd0).1:qt (qd neg n d).num.natAbs 137438953536) (I ((qz (p:=137438953536) (qb (by decide) hx1) (qI (qb (by decide) hx2)) hd0).2:le2 (qd neg n d).den 137438953536) ((Eq.refl (qd neg n d)))))))) (fun(h17: ¬((limbs d).getD 0 0=1))=>I ((jt hn0 hd0).symm:neg=decide ((qd neg n d).num<0)) (I (by rw[ji hd0,←hg]<;>first|rfl|(rw[hg1,q2l]<;>rfl):n=(qd neg n d).num.natAbs) (I (vE (by rw[(j4 hd0).2,←hg]<;>first|rfl|(rw[hg1,q2l]<;>rfl)) (by omega):limbs d=denL (qd neg n d).den) (I ((qz (p:=137438953536) (qb (by decide) hx1) (qI (qb (by decide) hx2)) hd0).1:qt (qd neg n d).num.natAbs 137438953536) (I ((qz (p:=137438953536) (qb (by decide) hx1) (qI (qb (by decide) hx2)) hd0).2:le2 (qd neg n d).den 137438953536) ((Eq.refl (qd neg n d)))))))))) (fun(h18: ¬((limbs d).length=1))=>I ((jt hn0 hd0).symm:neg=decide ((qd neg n d).num<0)) (I (by rw[ji hd0,←hg]<;>first|rfl|(rw[hg1,q2l]<;>rfl):n=(qd neg n d).num.natAbs) (I (vE (by rw[(j4 hd0).2,←hg]<;>first|rfl|(rw[hg1,q2l]<;>rfl)) (by omega):limbs d=denL (qd neg n d).den) (I ((qz (p:=137438953536) (qb (by decide) hx1) (qI (qb (by decide) hx2)) hd0).1:qt (qd neg n d).num.natAbs 137438953536) (I ((qz (p:=137438953536) (qb (by decide) hx1) (qI (qb (by decide) hx2)) hd0).2:le2 (qd neg n d).den 137438953536) ((Eq.refl (qd neg n d)))))))))))) (Nat.gcd n d) rfl))⟩)
abbrev CQ:Ctr Tryz.prog:=FI.c SF
abbrev q0a:FI:=⟨25,[(.int .i64)],[(.n 4611686018427387904)],fun _=>[],fun b z=>(fun(v:Int)=> .c (.agg [.dt .rat (.n (Nat.log2 (b0 b).nb+1)) ((v:Rat))])) z⟩
theorem q0b:q0a.OK Tryz.prog:=jc hmix 13 Tryz.func25 rfl rfl (by decide) [(58,.c P1)] (fun(v:Int) b hx hp=>jC (NW (Bnds.h1 hx).int)) (fun(v:Int) hx hp=>by
 have hx0:Int.natAbs v≤4611686018427387904:=hx
 refine⟨.h 2 2 (.rat (v:Rat) 64) (.nil),kcast (by kernel_rfl) (I (by rw[BG]:decide (v<0)=decide ((v:Rat).num<0)) (I (by rw[BG]:v.natAbs=(v:Rat).num.natAbs) (I (FJ v:(v:Rat).den=1) (I (by rw[BG];exact q2t hx0 (by decide):qt (v:Rat).num.natAbs 64) (I (by rw[FJ];exact Nat.one_le_two_pow:le2 (v:Rat).den 64) ((Eq.refl (v:Rat))))))))⟩)
abbrev Jn:FI:=⟨47,[(.int .i64),(.int .i64)],[(.n 4611686018427387904),(.n 4611686018427387904)],fun _=>[],fun b z=>(fun(u:Int)(v:Int)=> .tup [.agg [.dt .rat (.n (max (Nat.log2 (b0 b).nb+1) (Nat.log2 (b1 b).nb+1))) ((u:Rat)/(v:Rat))],.one (.dt (.int .i64) (.n 3) (mkC' v))]) z.1 z.2⟩
theorem OZ:Jn.OK Tryz.prog:=jc hmix 29 Tryz.func47 rfl rfl (by decide) [(58,.c P1),(85,.c CQ)] (fun(u:Int)(v:Int) b hx hp=>qY (jC (GH (Bnds.h2 hx).1.int (Bnds.h2 hx).2.int)) (qY (qn (Uo v) rfl) vG)) (fun(u:Int)(v:Int) hx hp=>by
 have hx0:Int.natAbs u≤4611686018427387904:=hx.1
 have hx1:Int.natAbs v≤4611686018427387904:=hx.2
 refine⟨.nil,kcast (by kernel_rfl) (Sp (v=0) (fun h1=>q1y (by rw[show v=0 by assumption];simp[Rat.div_def]:0=((u:Int):Rat)/((v:Int):Rat)) ((if_pos (by assumption)).symm:3=mkC' v)) (fun h2=>I (?_:0<v.natAbs) (q1y (IT u v:qd (decide ((decide (u<0))≠(decide (v<0)))) u.natAbs v.natAbs=((u:Int):Rat)/((v:Int):Rat)) ((if_neg (by assumption)).symm:0=mkC' v))))⟩<;>omega)
abbrev X9:Ctr Tryz.prog:=FI.c OZ
abbrev X7:FI:=⟨24,[(.int .i64),(.int .i64)],[(.n 4611686018427387904),(.n 4611686018427387904)],fun _=>[],fun b z=>(fun(u:Int)(v:Int)=> .c (.agg [.dt .rat (.n (max (Nat.log2 (b0 b).nb+1) (Nat.log2 (b1 b).nb+1))) ((u:Rat)/(v:Rat))])) z.1 z.2⟩
theorem X8:X7.OK Tryz.prog:=jc hmix 14 Tryz.func24 rfl rfl (by decide) [(47,.c X9)] (fun(u:Int)(v:Int) b hx hp=>jC (GH (Bnds.h2 hx).1.int (Bnds.h2 hx).2.int)) (fun(u:Int)(v:Int) hx hp=>by
 refine⟨.nil,kcast (by kernel_rfl) ((Eq.refl (((u:Int):Rat)/((v:Int):Rat))))⟩)
abbrev Xc:FI:=⟨57,[.rat,.rat],[(.n 68719476736),(.n 68719476736)],fun _=>[],fun b z=>(fun(x:Rat)(y:Rat)=> .c (.one (.dt .bool .u (decide (x=y))))) z.1 z.2⟩
theorem Xd:Xc.OK Tryz.prog:=jc hmix 26 Tryz.func57 rfl rfl (by decide) [(87,.c Fp)] (fun(x:Rat)(y:Rat) b hx hp=>qn trivial rfl) (fun(x:Rat)(y:Rat) hx hp=>by
 have hx0:Bnd .rat (.n 68719476736) x:=hx.1
 have hx1:Bnd .rat (.n 68719476736) y:=hx.2
 refine⟨.cond (.cond (.h 1 15 (.mag (dm x.den) 68719476737) (.h 1 17 (.mag (dm y.den) 68719476737) (.nil))) (.nil)) (.nil),kcast (by kernel_rfl) (Sp ((decide (x.num<0))=(decide (y.num<0))) (fun h1=>Sp (qJ x.num.natAbs y.num.natAbs=0) (fun h2=>I (NJ _:denL x.den=limbs (dm x.den)) (I (QD hx0.2:qt (dm x.den) 68719476737) (I (NJ _:denL y.den=limbs (dm y.den)) (I (QD hx1.2:qt (dm y.den) 68719476737) ((q0i (by assumption) (by assumption):decide (qJ (dm x.den) (dm y.den)=0)=decide (x=y))))))) (fun h3=>(ysame (by first|exact .inl (by assumption)|exact .inr (.inl (by assumption))):false=decide (x=y)))) (fun h4=>(ysame (by first|exact .inl (by assumption)|exact .inr (.inl (by assumption))):false=decide (x=y))))⟩)
abbrev q0f:FI:=⟨26,[.rat],[(.n 68719476736)],fun _=>[],fun b z=>(fun(x:Rat)=> .c (.agg [.dt .rat (.n ((b0 b).nb)) (-x)])) z⟩
theorem SB:q0f.OK Tryz.prog:=jc hmix 14 Tryz.func26 rfl rfl (by decide) [] (fun(x:Rat) b hx hp=>jC (De (Bnds.h1 hx))) (fun(x:Rat) hx hp=>by
 refine⟨.cond (.h 2 0 (.rat (-x) 68719476736) (.nil)) (.h 2 0 (.rat (-x) 68719476736) (.nil)),kcast (by kernel_rfl) (Sp (¬(x.num<0)) (fun h1=>I (?_:decide (0<(limbs x.num.natAbs).length)=decide ((-x).num<0)) (I ((IW x).symm:x.num.natAbs=(-x).num.natAbs) (I (by rw[Rat.neg_den]:denL x.den=denL (-x).den) (I ((De hx).1:qt (-x).num.natAbs 68719476736) (I ((De hx).2:le2 (-x).den 68719476736) ((Eq.refl (-x)))))))) (fun h2=>I (?_:false=decide ((-x).num<0)) (I ((IW x).symm:x.num.natAbs=(-x).num.natAbs) (I (by rw[Rat.neg_den]:denL x.den=denL (-x).den) (I ((De hx).1:qt (-x).num.natAbs 68719476736) (I ((De hx).2:le2 (-x).den 68719476736) ((Eq.refl (-x)))))))))⟩<;>first|(first|exact YL (by assumption)|exact YM (by omega)))
abbrev q0e:Ctr Tryz.prog:=FI.c SB
abbrev q05:FI:=⟨45,[.rat,.rat],[(.n 68719476736),(.n 68719476736)],fun _=>[],fun b z=>(fun(x:Rat)(y:Rat)=> .c (.agg [.dt .rat (.n ((b0 b).nb+(b1 b).nb+1)) (x+y)])) z.1 z.2⟩
theorem SA:q05.OK Tryz.prog:=jc hmix 75 Tryz.func45 rfl rfl (by decide) [(83,.c Fq),(84,.c It),(85,.c CQ),(86,.c ZP),(87,.c Fp),(88,.c q01)] (fun(x:Rat)(y:Rat) b hx hp=>jC (KP (Bnds.h2 hx).1 (Bnds.h2 hx).2)) (fun(x:Rat)(y:Rat) hx hp=>by
 refine⟨.nil,kcast (by kernel_rfl) (Sp ((limbs x.num.natAbs).length=0) (fun h1=>(by rw[Ab (x:=x) (nl0.1 (by assumption)),Rat.zero_add]:y=x+y)) (fun h2=>Sp ((limbs y.num.natAbs).length=0) (fun h3=>(by rw[Ab (x:=y) (nl0.1 (by assumption)),Rat.add_zero]:x=x+y)) (fun h4=>have hqx:=q2H x.den_nz;have hqy:=q2H y.den_nz;have hqp:=q2G hqx hqy;Sp ((decide (x.num<0))=(decide (y.num<0))) (fun h5=>I (hqp:0<x.den*y.den) ((by rw[show x+y=x+yQ (decide (y.num<0)) y by rw[BM]];first|(have hs:decide (x.num<0)=decide (y.num<0):=(by assumption);rw[hs];exact BP hs)|exact BN (by assumption) (Nat.le_of_not_lt (mt jP.2 (by assumption)))|exact BO (by assumption) (by have h:=jP.1 (show qJ (x.num.natAbs*y.den) (y.num.natAbs*x.den)<0 by assumption);omega):qd (decide (x.num<0)) ((x.num.natAbs*y.den)+(y.num.natAbs*x.den)) (x.den*y.den)=x+y))) (fun h6=>Sp (qJ (x.num.natAbs*y.den) (y.num.natAbs*x.den)<0) (fun h7=>I (hqp:0<x.den*y.den) ((by rw[show x+y=x+yQ (decide (y.num<0)) y by rw[BM]];first|(have hs:decide (x.num<0)=decide (y.num<0):=(by assumption);rw[hs];exact BP hs)|exact BN (by assumption) (Nat.le_of_not_lt (mt jP.2 (by assumption)))|exact BO (by assumption) (by have h:=jP.1 (show qJ (x.num.natAbs*y.den) (y.num.natAbs*x.den)<0 by assumption);omega):qd (decide (y.num<0)) ((y.num.natAbs*x.den) -(x.num.natAbs*y.den)) (x.den*y.den)=x+y))) (fun h8=>I (hqp:0<x.den*y.den) ((by rw[show x+y=x+yQ (decide (y.num<0)) y by rw[BM]];first|(have hs:decide (x.num<0)=decide (y.num<0):=(by assumption);rw[hs];exact BP hs)|exact BN (by assumption) (Nat.le_of_not_lt (mt jP.2 (by assumption)))|exact BO (by assumption) (by have h:=jP.1 (show qJ (x.num.natAbs*y.den) (y.num.natAbs*x.den)<0 by assumption);omega):qd (decide (x.num<0)) ((x.num.natAbs*y.den) -(y.num.natAbs*x.den)) (x.den*y.den)=x+y)))))))⟩)
abbrev q04:Ctr Tryz.prog:=FI.c SA
abbrev q0j:FI:=⟨134,[.rat,.rat],[(.n 68719476736),(.n 68719476736)],fun _=>[],fun b z=>(fun(x:Rat)(y:Rat)=> .c (.agg [.dt .rat (.n ((b0 b).nb+(b1 b).nb+1)) (x-y)])) z.1 z.2⟩
theorem q0k:q0j.OK Tryz.prog:=jc hmix 9 Tryz.func134 rfl rfl (by decide) [(26,.c q0e),(45,.c q04)] (fun(x:Rat)(y:Rat) b hx hp=>jC (ME (Bnds.h2 hx).1 (Bnds.h2 hx).2)) (fun(x:Rat)(y:Rat) hx hp=>by
 refine⟨.nil,kcast (by kernel_rfl) ((by rw[Rat.sub_eq_add_neg]:x+(-y)=x-y))⟩)
abbrev q0c:FI:=⟨48,[.rat,.rat],[(.n 68719476736),(.n 68719476736)],fun _=>[],fun b z=>(fun(x:Rat)(y:Rat)=> .c (.agg [.dt .rat (.n ((b0 b).nb+(b1 b).nb)) (x*y)])) z.1 z.2⟩
theorem q0d:q0c.OK Tryz.prog:=jc hmix 21 Tryz.func48 rfl rfl (by decide) [(83,.c Fq),(84,.c It),(85,.c CQ)] (fun(x:Rat)(y:Rat) b hx hp=>jC (Gm (Bnds.h2 hx).1 (Bnds.h2 hx).2)) (fun(x:Rat)(y:Rat) hx hp=>by
 have hqp:=q2G (q2H x.den_nz) (q2H y.den_nz)
 refine⟨.nil,kcast (by kernel_rfl) (have hqx:=q2H x.den_nz;have hqy:=q2H y.den_nz;have hqp:=q2G hqx hqy;I (hqp:0<x.den*y.den) ((Dn x y:qd (decide ((decide (x.num<0))≠(decide (y.num<0)))) (x.num.natAbs*y.num.natAbs) (x.den*y.den)=x*y)))⟩)
abbrev q0h:FI:=⟨256,[.rat,.rat],[(.n 68719476736),(.n 68719476736)],fun _=>[],fun b z=>(fun(x:Rat)(y:Rat)=> .tup [.agg [.dt .rat (.n ((b0 b).nb+(b1 b).nb)) (x/y)],.one (.dt (.int .i64) (.n 3) (quoC y))]) z.1 z.2⟩
theorem SC:q0h.OK Tryz.prog:=jc hmix 27 Tryz.func256 rfl rfl (by decide) [(83,.c Fq),(84,.c It),(85,.c CQ)] (fun(x:Rat)(y:Rat) b hx hp=>qY (jC (J3 (Bnds.h2 hx).1 (Bnds.h2 hx).2)) (qY (qn (RD y) rfl) vG)) (fun(x:Rat)(y:Rat) hx hp=>by
 refine⟨.nil,kcast (by kernel_rfl) (Sp ((limbs y.num.natAbs).length=0) (fun h1=>q1y (UD (nl0.1 (by assumption)):0=x/y) ((if_pos (nl0.1 (by assumption))).symm:3=quoC y)) (fun h2=>have hy0:=(mt nl0.2 (by assumption): ¬y.num.natAbs=0);I (q2G (q2H x.den_nz) (q2H hy0):0<x.den*y.num.natAbs) (q1y (F3 hy0:qd (decide ((decide (x.num<0))≠(decide (y.num<0)))) (x.num.natAbs*y.den) (x.den*y.num.natAbs)=x/y) ((if_neg hy0).symm:0=quoC y))))⟩)
abbrev q0g:Ctr Tryz.prog:=FI.c SC
abbrev Xa:FI:=⟨229,[.rat,.rat],[(.n 68719476736),(.n 68719476736)],fun _=>[],fun b z=>(fun(x:Rat)(y:Rat)=> .c (.agg [.dt .rat (.n ((b0 b).nb+(b1 b).nb)) (x/y)])) z.1 z.2⟩
theorem Xb:Xa.OK Tryz.prog:=jc hmix 14 Tryz.func229 rfl rfl (by decide) [(256,.c q0g)] (fun(x:Rat)(y:Rat) b hx hp=>jC (J3 (Bnds.h2 hx).1 (Bnds.h2 hx).2)) (fun(x:Rat)(y:Rat) hx hp=>by
 refine⟨.nil,kcast (by kernel_rfl) ((Eq.refl (x/y)))⟩)
abbrev q06:FI:=⟨112,[.rat,.rat],[(.n 68719476736),(.n 68719476736)],fun _=>[],fun b z=>(fun(x:Rat)(y:Rat)=> .c (.one (.dt (.int .i64) (.n 1) (jF x y)))) z.1 z.2⟩
theorem q07:q06.OK Tryz.prog:=jc hmix 34 Tryz.func112 rfl rfl (by decide) [(16,.c Xe),(83,.c Fq),(84,.c It),(87,.c Fp)] (fun(x:Rat)(y:Rat) b hx hp=>qn (Lc x y) rfl) (fun(x:Rat)(y:Rat) hx hp=>by
 refine⟨.nil,kcast (by kernel_rfl) (Sp (jk x≠jk y) (fun h1=>Sp (jk x<jk y) (fun h2=>(?_:(-1)=jF x y)) (fun h3=>(?_:1=jF x y))) (fun h4=>have hs:=(show jk x=jk y by omega);Sp (x.num<0) (fun h5=>(?_: -(qJ (x.num.natAbs*y.den) (y.num.natAbs*x.den))=jF x y)) (fun h6=>(?_:qJ (x.num.natAbs*y.den) (y.num.natAbs*x.den)=jF x y))))⟩<;>first|(first|exact((FA (by assumption)).1 (by assumption)).symm|exact((FA (by assumption)).2 (by assumption)).symm|exact(NF hs (by assumption)).symm|exact(NG hs (by assumption)).symm))
abbrev J4:FI:=⟨269,[(.int .i64),(.int .i64)],[(.n 4611686018427387904),(.n 4611686018427387904)],fun _=>[],fun b z=>(fun(u:Int)(v:Int)=> .tup [.agg [.dt .rat (.n (max (Nat.log2 (b0 b).nb+1) (Nat.log2 (b1 b).nb+1))) ((u:Rat)/(v:Rat))],.one (.dt (.int .i64) (.n 3) (mkC' v))]) z.1 z.2⟩
theorem Wk:J4.OK Tryz.prog:=jc hmix 19 Tryz.func269 rfl rfl (by decide) [(147,.c C9),(149,.c OE)] (fun(u:Int)(v:Int) b hx hp=>qY (jC (GH (Bnds.h2 hx).1.int (Bnds.h2 hx).2.int)) (qY (qn (Uo v) rfl) vG)) (fun(u:Int)(v:Int) hx hp=>by
 refine⟨.nil,kcast (by kernel_rfl) (Sp (v=0) (fun h1=>q1y (by rw[show v=0 by assumption];simp[Rat.div_def]:0=((u:Int):Rat)/((v:Int):Rat)) ((if_pos (by assumption)).symm:3=mkC' v)) (fun h2=>q1y (IT u v:qd (decide ((decide (u<0))≠(decide (v<0)))) u.natAbs v.natAbs=((u:Int):Rat)/((v:Int):Rat)) ((if_neg (by assumption)).symm:0=mkC' v)))⟩)
theorem rv_n(n:Nat):(limbs n).length=0∨(limbs n).getD ((limbs n).length-1) 0≠0:=by
 by_cases h:(limbs n).length=0
 ·exact .inl h
 ·exact .inr (zV (by omega))
theorem rv_d(d:Nat):(denL d).length=0∨(denL d).getD ((denL d).length-1) 0≠0:=by
 unfold denL
 split
 ·exact .inl rfl
 ·exact rv_n d
theorem q1e{d:Nat}(h1:(denL d).length=1)(h2:(denL d).getD 0 0=1):False:=by
 have h:=wG (d:=d) (by omega)
 rw[h]at h1 h2
 have:=vM h1 h2
 subst this
 have:denL 1=[]:=rfl
 rw[←h,this]at h1;simp at h1
theorem rv_z{x:Rat}(h:(limbs x.num.natAbs).length=0):x=0:=by
 have h0:x.num.natAbs=0:=nl0.1 h
 have h1:x.num=0:=by omega
 rw[←vq x,h1]
 exact wv _ _
theorem q1f{x:Rat}(h:(limbs x.num.natAbs).length=0)(h2: ¬ ¬x.num<0):False:=by
 have:=rv_z h
 subst this
 exact h2 (by decide)
theorem rv_e{x:Rat}(h:(limbs x.num.natAbs).length=0):decide ((denL x.den).length=0)=true:=by
 have:=rv_z h
 subst this;rfl
theorem rv_g(x:Rat):decide (bl (Nat.gcd x.num.natAbs x.den)=1)=true:=by
 have:Nat.gcd x.num.natAbs x.den=1:=x.reduced
 rw[this];rfl
abbrev TP:FI:=⟨122,[.rat],[(.n 68719476736)],fun _=>[],fun b z=> .c (.one (.dt .bool .u true))⟩
theorem TQ:TP.OK Tryz.prog:=jc hmix 52 Tryz.func122 rfl rfl (by decide) [(178,.c Tp),(179,.c Hm),(180,.c gcd_c)] (fun(x:Rat) b hx hp=>qn trivial rfl) (fun(x:Rat) hx hp=>by
 have hx0:Bnd .rat (.n 68719476736) x:=hx
 refine⟨.cond (.cond (.nil) (.cond (.nil) (.cond (.nil) (.h 5 8 (.mag x.den 68719476737) (.nil))))) (.cond (.nil) (.cond (.nil) (.h 5 8 (.mag x.den 68719476737) (.nil)))),kcast (by kernel_rfl) (I (rv_n _:(limbs x.num.natAbs).length=0∨(limbs x.num.natAbs).getD ((limbs x.num.natAbs).length-1) 0≠0) (I (rv_d _:(denL x.den).length=0∨(denL x.den).getD ((denL x.den).length-1) 0≠0) (Sp ((denL x.den).length=1) (fun h1=>I (?_:0<(denL x.den).length) (Sp ((denL x.den).getD 0 0=1) (fun h2=>(?_:false=true)) (fun h3=>Sp ((limbs x.num.natAbs).length=0) (fun h4=>Sp (¬(x.num<0)) (fun h5=>(rv_e (by assumption):decide ((denL x.den).length=0)=true)) (fun h6=>(?_:false=true))) (fun h7=>Sp ((denL x.den).length=0) (fun h8=>(Eq.refl true)) (fun h9=>I (wG (by omega):denL x.den=limbs x.den) (I (Ah hx0.2:qt x.den 68719476737) ((rv_g x:decide (bl (Nat.gcd x.num.natAbs x.den)=1)=true)))))))) (fun h10=>Sp ((limbs x.num.natAbs).length=0) (fun h11=>Sp (¬(x.num<0)) (fun h12=>(rv_e (by assumption):decide ((denL x.den).length=0)=true)) (fun h13=>(?_:false=true))) (fun h14=>Sp ((denL x.den).length=0) (fun h15=>(Eq.refl true)) (fun h16=>I (wG (by omega):denL x.den=limbs x.den) (I (Ah hx0.2:qt x.den 68719476737) ((rv_g x:decide (bl (Nat.gcd x.num.natAbs x.den)=1)=true)))))))))⟩<;>first|omega|(first|exact(q1e (by assumption) (by assumption)).elim|exact(q1f (by assumption) (by assumption)).elim))
section
section
variable {P:Program}
theorem q1l(hm:P.follows .mixedOrders=true){f:FuncId}{fn:Func}{c:Code}{n:Nat}(hf:P.funcs[f]?=some fn)(hb:fn.body=some c)(hn:fn.ntmps=n)(hname:fn.name≠ "runtime.NumGoroutine")
  {G:List (Nat×Hint P)}{vs:List WV}{R:WV}(hok: ∀v∈vs,v.ok)(hlen:Nat.ble vs.length n=true)(hR:R.ids=[])(hRk:R.ok)(ann:Ann P)
  (hh:Hold (wp ⟨G,n,[]⟩ c ann (v3 vs []) (fun an e st=>wpre ⟨G,n,[]⟩ 999999 an st fun _ st=>retW P fn.results.toList R e st))):Sig P f (vs.map WV.exp) R.exp:=by
 have h:=hh.h
 have ht:=El hm h (wx hok (fun p hp=>by simp at hp))
 rw[zQ]at ht
 refine MB hf hb hn hname (by rw[q1X];exact q2o hlen) (FH hR) ?_
 intro E hn' hK a w H β hr
 refine wp_mono (ht E hn' hK a w H β hr) ?_
 rintro e a' w' ⟨s,H',β',⟨ann',st0,rfl,hk0,hΨ⟩,hr0⟩
 obtain⟨_,st',hΦ,hk',he,_,_⟩:=Al hΨ hk0
 obtain⟨H',β',hr'⟩:=he E hn' hK a' w' H' β' hr0
 obtain⟨h1,h2⟩:=Bg hk' hRk hΦ
 exact⟨st'.toA,H',β',⟨h1,h2⟩,hr'⟩
end
def eL1(x y a b:Int):Nat:=if x=a∧y=b then 1 else 0
def triL(l:List (Int×(Int×Int)))(i:Nat):Int×(Int×Int):=l.getD i (0,(0,0))
def jq(l:List (Int×(Int×Int)))(a b:Int):Nat→Nat
 |0=>0
 |n+1=>jq l a b n+eL1 (triL l n).1 (triL l n).2.1 a b+eL1 (triL l n).2.1 (triL l n).2.2 a b+eL1 (triL l n).2.2 (triL l n).1 a b
theorem el_y{x y a b:Int}{n:Nat}(h:x=a)(k:y=b):n+1=n+eL1 x y a b:=by unfold eL1;rw[if_pos ⟨h,k⟩]
theorem el_1{x y a b:Int}{n:Nat}(h: ¬x=a):n=n+eL1 x y a b:=by unfold eL1;rw[if_neg (fun e=>h e.1)];rfl
theorem el_2{x y a b:Int}{n:Nat}(h: ¬y=b):n=n+eL1 x y a b:=by unfold eL1;rw[if_neg (fun e=>h e.2)];rfl
theorem jB{l:List (Int×(Int×Int))}{a b:Int}{n t t1 t2 t3:Nat}(h:t=jq l a b n)(h1:t1=t+eL1 (triL l n).1 (triL l n).2.1 a b)(h2:t2=t1+eL1 (triL l n).2.1 (triL l n).2.2 a b)(h3:t3=t2+eL1 (triL l n).2.2 (triL l n).1 a b):t3=jq l a b (n+1):=by
 rw[jq,h3,h2,h1,h]
theorem Jd(l:List (Int×(Int×Int)))(a b:Int): ∀n,jq l a b n≤3*n
 |0=>q2r 0
 |n+1=>by
  have:=Jd l a b n
  have k: ∀x y,eL1 x y a b≤1:=fun x y=>by unfold eL1;split<;>omega
  have:=k (triL l n).1 (triL l n).2.1;have:=k (triL l n).2.1 (triL l n).2.2;have:=k (triL l n).2.2 (triL l n).1
  rw[jq];omega
end
theorem q1d(l:List (Int×(Int×Int)))(a b_:Int)(hl:Bnd (.sl (.pr (.int .i64) (.pr (.int .i64) (.int .i64)))) (.s 4096 (.p (.n 1048576) (.p (.n 1048576) (.n 1048576)))) l)(ha:Bnd (.int .i64) (.n 1048576) a)(hb:Bnd (.int .i64) (.n 1048576) b_):
 Sig Tryz.prog 44 [.c (.agg [.abs unP,.abs (flP (j7 (.pr (.int .i64) (.pr (.int .i64) (.int .i64))) l) l.length),.abs unP]),.c (.one (.val (.int .i64 a))),.c (.one (.val (.int .i64 b_)))] (.c (.one (.val (.int .i64 ((jq l a b_ l.length:Nat):Int))))):=by
 have hml:l.length≤4096:=hl.1
 have hok: ∀v∈[WV.c (.agg [.un,.dt (.sl (.pr (.int .i64) (.pr (.int .i64) (.int .i64)))) (.s 4096 (.p (.n 1048576) (.p (.n 1048576) (.n 1048576)))) l,.un]),.c (.one (.dt (.int .i64) (.n 1048576) a)),.c (.one (.dt (.int .i64) (.n 1048576) b_))],v.ok:=fun v hv=>by
  simp only[q22,q2a,or_false]at hv
  rcases hv with rfl|rfl|rfl
  ·intro x hx
   simp only[q22,q2a,or_false]at hx
   rcases hx with rfl|rfl|rfl
   ·trivial
   ·exact hl
   ·trivial
  ·exact⟨ha,rfl⟩
  ·exact⟨hb,rfl⟩
 have hr:jq l a b_ l.length≤12288:=by have:=Jd l a b_ l.length;omega
 refine q1l hmix (n:=46) (G:=[]) (vs:=[.c (.agg [.un,.dt (.sl (.pr (.int .i64) (.pr (.int .i64) (.int .i64)))) (.s 4096 (.p (.n 1048576) (.p (.n 1048576) (.n 1048576)))) l,.un]),.c (.one (.dt (.int .i64) (.n 1048576) a)),.c (.one (.dt (.int .i64) (.n 1048576) b_))]) (R:= .c (.one (.dt (.nat .i64) (.n 12288) (jq l a b_ l.length)))) Tryz.func44 rfl rfl (by decide) hok rfl rfl ⟨hr,rfl⟩ (.loop [.s 8 (.nat .i64) (.n 4096),.s 7 (.nat .i64) (.n 12288)] (fun((i,t):Nat×Nat)=>t=jq l a b_ i∧i≤l.length) (fun((i,t):Nat×Nat)=>l.length-i) (fun((i,t):Nat×Nat)=> .nil)) (kcast (by kernel_rfl) (I (⟨rfl,q2O _⟩:0=jq l a b_ 0∧0≤l.length) (fun(i:Nat)(t:Nat)(hb1:HB [.s 8 (.nat .i64) (.n 4096),.s 7 (.nat .i64) (.n 12288)] (i,t))(hI:t=jq l a b_ i∧i≤l.length)=>have hv56:=(show i≤4096 from hb1.1);have hv57:=(show t≤12288 from hb1.2);have htl:=(show t≤3*i from hI.1▸Jd l a b_ i);Sp (i<l.length) (fun h2=>I (?_:i<l.length) (Sp ((l.getD i (0,(0,0))).1=a) (fun h3=>I (?_:i<l.length) (Sp (((l.getD i (0,(0,0))).2).1=b_) (fun h4=>I (?_:i<l.length) (Sp (((l.getD i (0,(0,0))).2).1=a) (fun h5=>I (?_:i<l.length) (Sp (((l.getD i (0,(0,0))).2).2=b_) (fun h6=>I (?_:i<l.length) (Sp (((l.getD i (0,(0,0))).2).2=a) (fun h7=>I (?_:i<l.length) (Sp ((l.getD i (0,(0,0))).1=b_) (fun h8=>I (show(i+1)≤4096 by omega:Bnd (.nat .i64) (.n 4096) (i+1)) (I (show(((t+1)+1)+1)≤12288 by omega:Bnd (.nat .i64) (.n 12288) (((t+1)+1)+1)) (q1y (⟨jB hI.1 (el_y h3 h4) (el_y h5 h6) (el_y h7 h8),by omega⟩:(((t+1)+1)+1)=jq l a b_ (i+1)∧(i+1)≤l.length) (?_:l.length-(i+1)<l.length-i)))) (fun h9=>I (show(i+1)≤4096 by omega:Bnd (.nat .i64) (.n 4096) (i+1)) (I (show((t+1)+1)≤12288 by omega:Bnd (.nat .i64) (.n 12288) ((t+1)+1)) (q1y (⟨jB hI.1 (el_y h3 h4) (el_y h5 h6) (el_2 h9),by omega⟩:((t+1)+1)=jq l a b_ (i+1)∧(i+1)≤l.length) (?_:l.length-(i+1)<l.length-i)))))) (fun h10=>I (show(i+1)≤4096 by omega:Bnd (.nat .i64) (.n 4096) (i+1)) (I (show((t+1)+1)≤12288 by omega:Bnd (.nat .i64) (.n 12288) ((t+1)+1)) (q1y (⟨jB hI.1 (el_y h3 h4) (el_y h5 h6) (el_1 h10),by omega⟩:((t+1)+1)=jq l a b_ (i+1)∧(i+1)≤l.length) (?_:l.length-(i+1)<l.length-i)))))) (fun h11=>I (?_:i<l.length) (Sp (((l.getD i (0,(0,0))).2).2=a) (fun h12=>I (?_:i<l.length) (Sp ((l.getD i (0,(0,0))).1=b_) (fun h13=>I (show(i+1)≤4096 by omega:Bnd (.nat .i64) (.n 4096) (i+1)) (I (show((t+1)+1)≤12288 by omega:Bnd (.nat .i64) (.n 12288) ((t+1)+1)) (q1y (⟨jB hI.1 (el_y h3 h4) (el_2 h11) (el_y h12 h13),by omega⟩:((t+1)+1)=jq l a b_ (i+1)∧(i+1)≤l.length) (?_:l.length-(i+1)<l.length-i)))) (fun h14=>I (show(i+1)≤4096 by omega:Bnd (.nat .i64) (.n 4096) (i+1)) (I (show(t+1)≤12288 by omega:Bnd (.nat .i64) (.n 12288) (t+1)) (q1y (⟨jB hI.1 (el_y h3 h4) (el_2 h11) (el_2 h14),by omega⟩:(t+1)=jq l a b_ (i+1)∧(i+1)≤l.length) (?_:l.length-(i+1)<l.length-i)))))) (fun h15=>I (show(i+1)≤4096 by omega:Bnd (.nat .i64) (.n 4096) (i+1)) (I (show(t+1)≤12288 by omega:Bnd (.nat .i64) (.n 12288) (t+1)) (q1y (⟨jB hI.1 (el_y h3 h4) (el_2 h11) (el_1 h15),by omega⟩:(t+1)=jq l a b_ (i+1)∧(i+1)≤l.length) (?_:l.length-(i+1)<l.length-i)))))))) (fun h16=>I (?_:i<l.length) (Sp (((l.getD i (0,(0,0))).2).2=a) (fun h17=>I (?_:i<l.length) (Sp ((l.getD i (0,(0,0))).1=b_) (fun h18=>I (show(i+1)≤4096 by omega:Bnd (.nat .i64) (.n 4096) (i+1)) (I (show((t+1)+1)≤12288 by omega:Bnd (.nat .i64) (.n 12288) ((t+1)+1)) (q1y (⟨jB hI.1 (el_y h3 h4) (el_1 h16) (el_y h17 h18),by omega⟩:((t+1)+1)=jq l a b_ (i+1)∧(i+1)≤l.length) (?_:l.length-(i+1)<l.length-i)))) (fun h19=>I (show(i+1)≤4096 by omega:Bnd (.nat .i64) (.n 4096) (i+1)) (I (show(t+1)≤12288 by omega:Bnd (.nat .i64) (.n 12288) (t+1)) (q1y (⟨jB hI.1 (el_y h3 h4) (el_1 h16) (el_2 h19),by omega⟩:(t+1)=jq l a b_ (i+1)∧(i+1)≤l.length) (?_:l.length-(i+1)<l.length-i)))))) (fun h20=>I (show(i+1)≤4096 by omega:Bnd (.nat .i64) (.n 4096) (i+1)) (I (show(t+1)≤12288 by omega:Bnd (.nat .i64) (.n 12288) (t+1)) (q1y (⟨jB hI.1 (el_y h3 h4) (el_1 h16) (el_1 h20),by omega⟩:(t+1)=jq l a b_ (i+1)∧(i+1)≤l.length) (?_:l.length-(i+1)<l.length-i)))))))) (fun h21=>I (?_:i<l.length) (Sp (((l.getD i (0,(0,0))).2).1=a) (fun h22=>I (?_:i<l.length) (Sp (((l.getD i (0,(0,0))).2).2=b_) (fun h23=>I (?_:i<l.length) (Sp (((l.getD i (0,(0,0))).2).2=a) (fun h24=>I (?_:i<l.length) (Sp ((l.getD i (0,(0,0))).1=b_) (fun h25=>I (show(i+1)≤4096 by omega:Bnd (.nat .i64) (.n 4096) (i+1)) (I (show((t+1)+1)≤12288 by omega:Bnd (.nat .i64) (.n 12288) ((t+1)+1)) (q1y (⟨jB hI.1 (el_2 h21) (el_y h22 h23) (el_y h24 h25),by omega⟩:((t+1)+1)=jq l a b_ (i+1)∧(i+1)≤l.length) (?_:l.length-(i+1)<l.length-i)))) (fun h26=>I (show(i+1)≤4096 by omega:Bnd (.nat .i64) (.n 4096) (i+1)) (I (show(t+1)≤12288 by omega:Bnd (.nat .i64) (.n 12288) (t+1)) (q1y (⟨jB hI.1 (el_2 h21) (el_y h22 h23) (el_2 h26),by omega⟩:(t+1)=jq l a b_ (i+1)∧(i+1)≤l.length) (?_:l.length-(i+1)<l.length-i)))))) (fun h27=>I (show(i+1)≤4096 by omega:Bnd (.nat .i64) (.n 4096) (i+1)) (I (show(t+1)≤12288 by omega:Bnd (.nat .i64) (.n 12288) (t+1)) (q1y (⟨jB hI.1 (el_2 h21) (el_y h22 h23) (el_1 h27),by omega⟩:(t+1)=jq l a b_ (i+1)∧(i+1)≤l.length) (?_:l.length-(i+1)<l.length-i)))))) (fun h28=>I (?_:i<l.length) (Sp (((l.getD i (0,(0,0))).2).2=a) (fun h29=>I (?_:i<l.length) (Sp ((l.getD i (0,(0,0))).1=b_) (fun h30=>I (show(i+1)≤4096 by omega:Bnd (.nat .i64) (.n 4096) (i+1)) (I (show(t+1)≤12288 by omega:Bnd (.nat .i64) (.n 12288) (t+1)) (q1y (⟨jB hI.1 (el_2 h21) (el_2 h28) (el_y h29 h30),by omega⟩:(t+1)=jq l a b_ (i+1)∧(i+1)≤l.length) (?_:l.length-(i+1)<l.length-i)))) (fun h31=>I (show(i+1)≤4096 by omega:Bnd (.nat .i64) (.n 4096) (i+1)) (q1y (⟨jB hI.1 (el_2 h21) (el_2 h28) (el_2 h31),by omega⟩:t=jq l a b_ (i+1)∧(i+1)≤l.length) (?_:l.length-(i+1)<l.length-i))))) (fun h32=>I (show(i+1)≤4096 by omega:Bnd (.nat .i64) (.n 4096) (i+1)) (q1y (⟨jB hI.1 (el_2 h21) (el_2 h28) (el_1 h32),by omega⟩:t=jq l a b_ (i+1)∧(i+1)≤l.length) (?_:l.length-(i+1)<l.length-i))))))) (fun h33=>I (?_:i<l.length) (Sp (((l.getD i (0,(0,0))).2).2=a) (fun h34=>I (?_:i<l.length) (Sp ((l.getD i (0,(0,0))).1=b_) (fun h35=>I (show(i+1)≤4096 by omega:Bnd (.nat .i64) (.n 4096) (i+1)) (I (show(t+1)≤12288 by omega:Bnd (.nat .i64) (.n 12288) (t+1)) (q1y (⟨jB hI.1 (el_2 h21) (el_1 h33) (el_y h34 h35),by omega⟩:(t+1)=jq l a b_ (i+1)∧(i+1)≤l.length) (?_:l.length-(i+1)<l.length-i)))) (fun h36=>I (show(i+1)≤4096 by omega:Bnd (.nat .i64) (.n 4096) (i+1)) (q1y (⟨jB hI.1 (el_2 h21) (el_1 h33) (el_2 h36),by omega⟩:t=jq l a b_ (i+1)∧(i+1)≤l.length) (?_:l.length-(i+1)<l.length-i))))) (fun h37=>I (show(i+1)≤4096 by omega:Bnd (.nat .i64) (.n 4096) (i+1)) (q1y (⟨jB hI.1 (el_2 h21) (el_1 h33) (el_1 h37),by omega⟩:t=jq l a b_ (i+1)∧(i+1)≤l.length) (?_:l.length-(i+1)<l.length-i))))))))) (fun h38=>I (?_:i<l.length) (Sp (((l.getD i (0,(0,0))).2).1=a) (fun h39=>I (?_:i<l.length) (Sp (((l.getD i (0,(0,0))).2).2=b_) (fun h40=>I (?_:i<l.length) (Sp (((l.getD i (0,(0,0))).2).2=a) (fun h41=>I (?_:i<l.length) (Sp ((l.getD i (0,(0,0))).1=b_) (fun h42=>I (show(i+1)≤4096 by omega:Bnd (.nat .i64) (.n 4096) (i+1)) (I (show((t+1)+1)≤12288 by omega:Bnd (.nat .i64) (.n 12288) ((t+1)+1)) (q1y (⟨jB hI.1 (el_1 h38) (el_y h39 h40) (el_y h41 h42),by omega⟩:((t+1)+1)=jq l a b_ (i+1)∧(i+1)≤l.length) (?_:l.length-(i+1)<l.length-i)))) (fun h43=>I (show(i+1)≤4096 by omega:Bnd (.nat .i64) (.n 4096) (i+1)) (I (show(t+1)≤12288 by omega:Bnd (.nat .i64) (.n 12288) (t+1)) (q1y (⟨jB hI.1 (el_1 h38) (el_y h39 h40) (el_2 h43),by omega⟩:(t+1)=jq l a b_ (i+1)∧(i+1)≤l.length) (?_:l.length-(i+1)<l.length-i)))))) (fun h44=>I (show(i+1)≤4096 by omega:Bnd (.nat .i64) (.n 4096) (i+1)) (I (show(t+1)≤12288 by omega:Bnd (.nat .i64) (.n 12288) (t+1)) (q1y (⟨jB hI.1 (el_1 h38) (el_y h39 h40) (el_1 h44),by omega⟩:(t+1)=jq l a b_ (i+1)∧(i+1)≤l.length) (?_:l.length-(i+1)<l.length-i)))))) (fun h45=>I (?_:i<l.length) (Sp (((l.getD i (0,(0,0))).2).2=a) (fun h46=>I (?_:i<l.length) (Sp ((l.getD i (0,(0,0))).1=b_) (fun h47=>I (show(i+1)≤4096 by omega:Bnd (.nat .i64) (.n 4096) (i+1)) (I (show(t+1)≤12288 by omega:Bnd (.nat .i64) (.n 12288) (t+1)) (q1y (⟨jB hI.1 (el_1 h38) (el_2 h45) (el_y h46 h47),by omega⟩:(t+1)=jq l a b_ (i+1)∧(i+1)≤l.length) (?_:l.length-(i+1)<l.length-i)))) (fun h48=>I (show(i+1)≤4096 by omega:Bnd (.nat .i64) (.n 4096) (i+1)) (q1y (⟨jB hI.1 (el_1 h38) (el_2 h45) (el_2 h48),by omega⟩:t=jq l a b_ (i+1)∧(i+1)≤l.length) (?_:l.length-(i+1)<l.length-i))))) (fun h49=>I (show(i+1)≤4096 by omega:Bnd (.nat .i64) (.n 4096) (i+1)) (q1y (⟨jB hI.1 (el_1 h38) (el_2 h45) (el_1 h49),by omega⟩:t=jq l a b_ (i+1)∧(i+1)≤l.length) (?_:l.length-(i+1)<l.length-i))))))) (fun h50=>I (?_:i<l.length) (Sp (((l.getD i (0,(0,0))).2).2=a) (fun h51=>I (?_:i<l.length) (Sp ((l.getD i (0,(0,0))).1=b_) (fun h52=>I (show(i+1)≤4096 by omega:Bnd (.nat .i64) (.n 4096) (i+1)) (I (show(t+1)≤12288 by omega:Bnd (.nat .i64) (.n 12288) (t+1)) (q1y (⟨jB hI.1 (el_1 h38) (el_1 h50) (el_y h51 h52),by omega⟩:(t+1)=jq l a b_ (i+1)∧(i+1)≤l.length) (?_:l.length-(i+1)<l.length-i)))) (fun h53=>I (show(i+1)≤4096 by omega:Bnd (.nat .i64) (.n 4096) (i+1)) (q1y (⟨jB hI.1 (el_1 h38) (el_1 h50) (el_2 h53),by omega⟩:t=jq l a b_ (i+1)∧(i+1)≤l.length) (?_:l.length-(i+1)<l.length-i))))) (fun h54=>I (show(i+1)≤4096 by omega:Bnd (.nat .i64) (.n 4096) (i+1)) (q1y (⟨jB hI.1 (el_1 h38) (el_1 h50) (el_1 h54),by omega⟩:t=jq l a b_ (i+1)∧(i+1)≤l.length) (?_:l.length-(i+1)<l.length-i))))))))) (fun h55=>(by rw[hI.1,show i=l.length by omega]:t=jq l a b_ l.length)))))<;>omega
def Bd.mx:Bd→Nat
 | .u=>0
 | .n b=>b
 | .s _ e=>e.mx
 | .p a b=>max a.mx b.mx
theorem nd{p:Prop}[Decidable p](h:(!decide p)=true): ¬p:=by simpa using h
theorem Ti{α:Type}{l:List α}{d:α}{i:Nat}(h:i<l.length):l.getD i d=l[i]:=by simp[q1M,h]
theorem Sc{α:Type}{l:List α}{d:α}{i:Nat}(h:i<l.length):l.take (i+1)=l.take i++[l.getD i d]:=by
 rw[Ti h,q2e h]
theorem TR{α:Type}{l:List α}{v:α}{i:Nat}(h:i<l.length):(l.set i v).take (i+1)=l.take i++[v]:=by
 rw[q2e (by simpa using h),List.getElem_set_self]
 congr 1
 rw[List.take_set,List.set_eq_of_length_le (by simp;omega)]
structure Cpy {α:Type} (l out:List α) (i:Nat):Prop where
 hl:out.length=l.length
 hi:i≤l.length
 ht:out.take i=l.take i
theorem Cpy.start{α:Type}{l:List α}(d:α):Cpy l (List.replicate l.length d) 0:=⟨by simp,by omega,by simp⟩
theorem Cpy.step{α:Type}{l out:List α}{i:Nat}(h:Cpy l out i)(d:α)(hi:i<l.length):Cpy l (out.set i (l.getD i d)) (i+1):=
 ⟨by simp[h.hl],by omega,by rw[TR (by rw[h.hl];exact hi),Sc hi,h.ht]⟩
theorem Cpy.fin{α:Type}{l out:List α}{i:Nat}(h:Cpy l out i)(hi: ¬i<l.length):out=l:=by
 have h1:=h.hl
 have h2:=h.hi
 have:=h.ht
 rwa [q2d (by omega),q2d (by omega)]at this
abbrev YQ:FI:=⟨54,[.rat],[(.n 1099511627776)],fun _=>[],fun b z=>(fun(x:Rat)=> .c (.agg [.dt .rat (b0 b) x])) z⟩
theorem YR:YQ.OK Tryz.prog:=jc hmix 12 Tryz.func54 rfl rfl (by decide) [(105,.c DE)] (fun(x:Rat) b hx hp=>Qm (Bnds.h1 hx)) (fun(x:Rat) hx hp=>by
 have hx0:Bnd .rat (.n 1099511627776) x:=hx
 refine⟨.h 1 7 (.c BS) (.h 1 8 (.rat x 1099511627776) (.nil)),kcast (by kernel_rfl) (I (Eq.refl (decide (x.num<0))) (I (Eq.refl x.num.natAbs) (I (Eq.refl (denL x.den)) (I (hx0.1:qt x.num.natAbs 1099511627776) (I (hx0.2:le2 x.den 1099511627776) ((Eq.refl x)))))))⟩)
abbrev Dice:Type:=List Int×Nat
abbrev Q2:Ty:= .pr (.sl (.int .i64)) (.nat .i64)
theorem mod_a{a m:Int}(hm:0<m)(h:Int.tmod a m<0):Int.tmod a m+m=a%m:=by
 have h1:=Int.tmod_eq_emod (a:=a) (b:=m)
 have h2:=Int.emod_nonneg a (show m≠0 by omega)
 have h3:=Int.emod_lt_of_pos a hm
 split at h1<;>omega
theorem q0G{a m:Int}(hm:0<m)(h: ¬Int.tmod a m<0):Int.tmod a m=a%m:=by
 have h1:=Int.tmod_eq_emod (a:=a) (b:=m)
 have h2:=Int.emod_nonneg a (show m≠0 by omega)
 have h3:=Int.emod_lt_of_pos a hm
 split at h1<;>omega
theorem Rf{a m:Int}{b:Nat}(hm:0<m)(hb:Int.natAbs m≤b):(a%m).natAbs≤b:=by
 have h2:=Int.emod_nonneg a (show m≠0 by omega)
 have h3:=Int.emod_lt_of_pos a hm
 omega
def HQ(s:Dice)(m:Int):Int:=if s.1.length≤s.2 then 0 else s.1.getD s.2 0%m
def HP(s:Dice):Dice:=if s.1.length≤s.2 then s else(s.1,s.2+1)
theorem VP{s:Dice}{m:Int}{b:Nat}(hm:0<m)(hb:Int.natAbs m≤b):(HQ s m).natAbs≤b:=by
 unfold HQ;split
 ·simp
 ·exact Rf hm hb
theorem VO{s:Dice}{b:Bd}(h:Bnd Q2 b s):Bnd Q2 (.p b.l (.n (max b.r.nb b.l.len))) (HP s):=by
 have h1:=h.pr
 have h2:=h1.2.nat
 have h3:=h1.1.sl.1
 unfold HP;split
 ·exact⟨h1.1,q2s h2 (Nat.le_max_left _ _)⟩
 ·refine⟨h1.1,?_⟩
  show s.2+1≤_
  have:=Nat.le_max_right b.r.nb b.l.len
  omega
abbrev VK:FI:=⟨5,[(.sl (.int .i64))],[(.s 9223372036854775807 (.n 9223372036854775808))],fun _=>[],fun b z=>(fun(l:List Int)=> .c (.one (.dt .bool .u (decide (l.length≤500))))) z⟩
theorem VM:VK.OK Tryz.prog:=jc hmix 6 Tryz.func5 rfl rfl (by decide) [] (fun(l:List Int) b hx hp=>qn trivial rfl) (fun(l:List Int) hx hp=>by
 refine⟨.nil,kcast (by kernel_rfl) ((Eq.refl (decide (l.length≤500))))⟩)
abbrev Yh:FI:=⟨34,[(.int .i64),(.int .i64)],[(.n 9223372036854775808),(.n 1099511627776)],fun z=>(fun(a:Int)(m:Int)=>[(0:Int)<m]) z.1 z.2,fun b z=>(fun(a:Int)(m:Int)=> .c (.one (.dt (.int .i64) (.n (b1 b).nb) (a%m)))) z.1 z.2⟩
theorem Yi:Yh.OK Tryz.prog:=jc hmix 14 Tryz.func34 rfl rfl (by decide) [] (fun(a:Int)(m:Int) b hx hp=>qn (Rf (hp _ q24) (Bnds.h2 hx).2.int) rfl) (fun(a:Int)(m:Int) hx hp=>by
 have hx0:Int.natAbs a≤9223372036854775808:=hx.1
 have hx1:Int.natAbs m≤1099511627776:=hx.2
 have hp0:(0:Int)<m:=hp _ (q24)
 refine⟨.nil,kcast (by kernel_rfl) (I (?_:m≠0) (Sp (Int.tmod a m<0) (fun h1=>(mod_a hp0 h1:(Int.tmod a m)+m=a%m)) (fun h2=>(q0G hp0 h2:Int.tmod a m=a%m))))⟩<;>omega)
abbrev Yg:Ctr Tryz.prog:=FI.c Yi
abbrev Vc:FO:=⟨7,[(.sl (.int .i64))],[(.s 1048576 (.n 9223372036854775808))],fun _=>[],fun k b z=> .c (.one (.loc k 0)),fun b z=>(fun(l:List Int)=> .rig [.dt (.pr (.sl (.int .i64)) (.nat .i64)) (.p (b0 b) (.n 0)) ((l,0))]) z⟩
theorem Vd:Vc.OK Tryz.prog:=mkO hmix 6 5 Tryz.func7 rfl rfl (by decide) [] (fun _=>rfl) (fun _ _ _=>rfl) (fun _ _=>rfl) (fun _ _ _=>⟨rfl,rfl⟩) (fun(l:List Int) k b hx hp=>⟨⟨trivial,rfl⟩,vf (show Bnd Q2 (.p (b0 b) (.n 0)) (l,0)from⟨Bnds.h1 hx,q2r _⟩)⟩) (fun(l:List Int) hx hp=>by
 refine bodyO.p (.nil) (kcast (by kernel_rfl) (q1y (rfl:(l,0)=(l,0)) (rfl:5=5))))
abbrev V9:FB:=⟨11,(.pr (.sl (.int .i64)) (.nat .i64)),(.p (.s 1048576 (.n 9223372036854775808)) (.n 1048576)),[(.int .i64)],[(.n 1099511627776)],fun s z=>(fun(m:Int)=>[(0:Int)<m]) z,fun tb b s z=>(fun(m:Int)=> .c (.one (.dt (.int .i64) (.n (b0 b).nb) (HQ s m)))) z,fun s z=>HP s,fun tb b=> .p tb.l (.n (max tb.r.nb tb.l.len))⟩
theorem Va:V9.OK Tryz.prog:=mkB' hmix 35 Tryz.func11 rfl rfl (by decide) [(34,.c Yg)] (fun _=>rfl) (fun _ _=>rfl) (fun _ _ _ _=>rfl) (fun(s:List Int×Nat)(m:Int) tb b hs hx hp=>⟨qn (VP (hp _ q24) (Bnds.h1 hx).int) rfl,VO hs⟩) (fun(s:List Int×Nat)(m:Int) hs hx hp=>by
 have hx0:Int.natAbs m≤1099511627776:=hx
 have hp0:(0:Int)<m:=hp _ (q24)
 have hsl:s.1.length≤1048576:=hs.1.1
 refine⟨.cond (.nil) (.h 4 9 (.ix s.2) (.nil)),kcast (by kernel_rfl) (Sp (s.1.length≤s.2) (fun h1=>q1y ((if_pos h1).symm:s=HP s) (((if_pos h1).symm:0=HQ s m))) (fun h2=>I (?_:((s.2+1:Nat):Int) -1=((s.2:Nat):Int)) (I (?_:s.2<s.1.length) (I (hp0:(0:Int)<m) (q1y ((if_neg h2).symm:(s.1,s.2+1)=HP s) (((if_neg h2).symm:(s.1.getD s.2 0)%m=HQ s m)))))))⟩<;>omega)
end Go.Proofs.YtjemkhmahjnfaaaGreat.Sx
