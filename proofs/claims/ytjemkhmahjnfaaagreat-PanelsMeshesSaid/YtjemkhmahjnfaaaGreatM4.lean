/-
Own laws and walks for the claim, part 4: WXl2, WYl, WVl, WBl, WBl2, WMl, WSm, WNat1, WNat2, WNat3, WNat4, WNat6, WRat1, WRat2, WRat3, WRat4, WAdd64, WRat5, WRat6, WRat7, WRat8, WRef1, WRef2, WRef3, WRef4, WRef5, WRef7, WRef8, WYa1, WYa2, WYa3, WVa1, WVa2, WYd1, WYa4, WZl, WYa5, WOa1, WDl, WDa1. No condition.
-/
import Derived.Test.YtjemkhmahjnfaaaGreatM3
namespace Go.Proofs.YtjemkhmahjnfaaaGreat.Sx
open Go Go.Proofs
set_option linter.unusedVariables false
set_option linter.unusedSimpArgs false
set_option maxRecDepth 20000
set_option maxHeartbeats 4000000
theorem S7(l:List Nat)(u:Nat):qb (l++[u])=qb l+4294967296^l.length*u:=by rw[AQ];simp[qb]
theorem Ws{l:List Nat}{u:Nat}(h: ∀v∈l,v<4294967296)(hu:u<4294967296): ∀v∈l++[u],v<4294967296:=by
 intro v hv
 rcases q1h.1 hv with hv|hv
 ·exact h v hv
 ·rw[q1o.1 hv];exact hu
theorem LL{l:List Nat}(hu: ∀v∈l,v<4294967296)(h:(limbs (qb l)).length=l.length):l=limbs (qb l):=by
 have h1:=Mc hu
 have h2:=Mc (jU (qb l))
 rw[qO,h]at h2
 exact h1.trans h2.symm
structure AddX (x y i c:Nat) (out:List Nat):Prop where
 hl:out.length=i
 hu: ∀u∈out,u<4294967296
 hc:c≤1
 hv:qb out+4294967296^i*c=qb ((limbs x).take i)+qb ((limbs y).take i)
 hi:i≤max (limbs x).length (limbs y).length+1
 hm:i=max (limbs x).length (limbs y).length+1→c=0∧4294967296^(max (limbs x).length (limbs y).length)≤x+y
theorem AddX.start(x y:Nat):AddX x y 0 0 []:=⟨rfl,fun u hu=>by simp at hu,by omega,by simp[qb],by omega,fun h=>by omega⟩
theorem AddX.le{x y i c:Nat}{out:List Nat}(h:AddX x y i c out)(hc:i<(limbs x).length∨i<(limbs y).length∨c≠0):i≤max (limbs x).length (limbs y).length:=by
 have:=h.hi
 rcases q1K (max (limbs x).length (limbs y).length) i with e|e
 ·have:=h.hm (by omega);omega
 ·exact e
theorem AddX.step{x y i c s:Nat}{out:List Nat}(h:AddX x y i c out)(hc:i<(limbs x).length∨i<(limbs y).length∨c≠0)(hs:s=c+(limbs x).getD i 0+(limbs y).getD i 0):
  AddX x y (i+1) (s/2^32) (out++[s%4294967296]):=by
 have hx:=qr x i
 have hy:=qr y i
 have hc1:=h.hc
 have hle:=h.le hc
 refine⟨by simp[h.hl],Ws h.hu (q1N _ (by omega)),by omega,?_,by omega,?_⟩
 ·rw[S7,h.hl,jA,jA,q20]
  have e:4294967296^i*(s%4294967296)+4294967296^i*4294967296*(s/2^32)=4294967296^i*s:=by
   rw[q1Q,←q1P,show s/2^32=s/4294967296 from rfl,Nat.mod_add_div]
  have e2:4294967296^i*s=4294967296^i*c+4294967296^i*(limbs x).getD i 0+4294967296^i*(limbs y).getD i 0:=by rw[hs,q1P,q1P]
  have:=h.hv
  omega
 ·intro e
  have hx0:(limbs x).getD i 0=0:=qU (by omega)
  have hy0:(limbs y).getD i 0=0:=qU (by omega)
  have hv:=h.hv
  have hc0:c=1:=by omega
  rw[zB (by omega),zB (by omega),qO,qO,hc0,show i=max (limbs x).length (limbs y).length by omega]at hv
  refine⟨by omega,by omega⟩
theorem AddX.step2{x y i c s u:Nat}{out:List Nat}(h:AddX x y i c out)(hc:i<(limbs x).length∨i<(limbs y).length∨c≠0)(hs:s=c+(limbs x).getD i 0+(limbs y).getD i 0)(hu:u=s%4294967296):
  AddX x y (i+1) (s/2^32) (out++[u]):=by subst hu;exact h.step hc hs
theorem AddX.fin{x y i c:Nat}{out:List Nat}(h:AddX x y i c out)(h1: ¬i<(limbs x).length)(h2: ¬i<(limbs y).length)(h0:c=0):out=limbs (x+y):=by
 have hv:=h.hv
 rw[zB (by omega),zB (by omega),qO,qO,h0,Nat.mul_zero,q1y]at hv
 rw[←hv]
 refine LL h.hu ?_
 have l1:=O8 h.hu
 have l2:(limbs x).length≤(limbs (qb out)).length:=zX (by omega)
 have l3:(limbs y).length≤(limbs (qb out)).length:=zX (by omega)
 have hl:=h.hl
 have hi:=h.hi
 rcases q1K (max (limbs x).length (limbs y).length) i with e|e
 ·have h9:=(h.hm (by omega)).2
  have:max (limbs x).length (limbs y).length<(limbs (qb out)).length:=by
   apply Nat.lt_of_not_le
   intro hl
   have h3:=zl (limbs (qb out)) (jU _)
   rw[qO]at h3
   have h4:=q1Y (show 0<4294967296 by omega) hl
   omega
  omega
 ·omega
def dm(d:Nat):Nat:=if d=1 then 0 else d
theorem NA(d:Nat):denL d=limbs (dm d):=by unfold denL dm;split<;>rfl
theorem Qx{d b:Nat}(h:le2 d b):qH (dm d) (b+1):=by
 unfold dm;split
 ·exact q1Z (by omega)
 ·exact wX h
theorem Xb{d e:Nat}(hd:d≠0)(he:e≠0):qR (dm d) (dm e)=0↔d=e:=by
 rw[CP];unfold dm;split<;>split<;>omega
theorem ysame{x y:Rat}(h: ¬decide (x.num<0)=decide (y.num<0)∨ ¬qR x.num.natAbs y.num.natAbs=0∨ ¬qR (dm x.den) (dm y.den)=0):false=decide (x=y):=by
 symm;apply decide_eq_false
 intro e;subst e
 rcases h with h|h|h
 ·exact h rfl
 ·exact h (CP.2 rfl)
 ·exact h (CP.2 rfl)
theorem ZB{x y:Rat}(h1:decide (x.num<0)=decide (y.num<0))(h2:qR x.num.natAbs y.num.natAbs=0):decide (qR (dm x.den) (dm y.den)=0)=decide (x=y):=by
 have e:qR (dm x.den) (dm y.den)=0↔x=y:=by
  rw[Xb x.den_nz y.den_nz,E0 x y]
  constructor
  ·intro h;exact⟨h1,by rw[CP.1 h2],by rw[h]⟩
  ·rintro⟨_,_,h⟩;exact Gi x.den_nz y.den_nz h
 rw[decide_eq_decide];exact e
theorem IO(x:Rat):(-x).num.natAbs=x.num.natAbs:=by rw[Rat.neg_num,Int.natAbs_neg]
theorem D1{x:Rat}{b:Bd}(h:Bnd .rat b x):Bnd .rat (.n b.nb) (-x):=by
 have h1:=h.rat
 exact⟨by rw[IO];exact h1.1,by rw[Rat.neg_den];exact h1.2⟩
theorem XG{x:Rat}(h: ¬x.num<0):decide (0<(limbs x.num.natAbs).length)=decide ((-x).num<0):=by
 rw[decide_eq_decide,Rat.neg_num]
 have:= @nl0 x.num.natAbs
 omega
theorem XH{x:Rat}(h:x.num<0):false=decide ((-x).num<0):=by
 symm;apply decide_eq_false;rw[Rat.neg_num];omega
theorem Bw(v:Int):((v:Rat)).num=v:=Rat.num_intCast v
theorem Fp(v:Int):((v:Rat)).den=1:=Rat.den_intCast v
def mkC'(d:Int):Int:=if d=0 then 3 else 0
theorem Ug(d:Int):(mkC' d).natAbs≤3:=by unfold mkC';split<;>decide
theorem IL(n d:Int):qn (decide (decide (n<0)≠decide (d<0))) n.natAbs d.natAbs=(n:Rat)/(d:Rat):=by
 by_cases h:d=0
 ·subst h;simp[Mo,Rat.div_def]
 ·have:=EX (x:=(n:Rat)) (y:=(d:Rat)) (by rw[Bw];omega)
  rw[Bw,Bw,Fp,Fp,Nat.mul_one,Nat.one_mul]at this
  exact this
theorem Gu{n d:Int}{b c:Nat}(hn:n.natAbs≤b)(hd:d.natAbs≤c):Bnd .rat (.n (max (Nat.log2 b+1) (Nat.log2 c+1))) ((n:Rat)/(d:Rat)):=by
 rw[←IL]
 exact GI (qi (Nat.le_max_left _ _) (wZ hn)) (qi (Nat.le_max_right _ _) (wZ hd))
def Bd.mx:Bd→Nat
 | .u=>0
 | .n b=>b
 | .s _ e=>e.mx
 | .p a b=>max a.mx b.mx
abbrev V3:Type:=Rat×Rat×Rat
abbrev tV3:Ty:= .pr .rat (.pr .rat .rat)
abbrev bV3(m:Nat):Bd:= .p (.n m) (.p (.n m) (.n m))
theorem Da{b:Bd}{x:Rat}{m:Nat}(h:Bnd .rat b x)(hm:b.nb≤m):Bnd .rat (.n m) x:=by
 have h:=h.rat
 exact⟨qi hm h.1,q1H h.2 (q1Y (by omega) hm)⟩
theorem Bd.nb_mx(b:Bd):b.nb≤b.mx:=by cases b<;>simp[Bd.nb,Bd.mx]
theorem Bd.l_mx(b:Bd):b.l.mx≤b.mx:=by cases b<;>simp[Bd.l,Bd.mx]<;>omega
theorem Bd.r_mx(b:Bd):b.r.mx≤b.mx:=by cases b<;>simp[Bd.r,Bd.mx]<;>omega
theorem Bnd.ratM{b:Bd}{x:Rat}(h:Bnd .rat b x):Bnd .rat (.n b.mx) x:=Da h b.nb_mx
theorem Bnd.v3{b:Bd}{x:V3}(h:Bnd tV3 b x):Bnd .rat (.n b.mx) x.1∧Bnd .rat (.n b.mx) x.2.1∧Bnd .rat (.n b.mx) x.2.2:=by
 have h1:=h.pr
 have h2:=h1.2.pr
 have:=b.l_mx;have:=b.r_mx;have:=b.r.l_mx;have:=b.r.r_mx
 exact⟨Da h1.1 (q1H (Bd.nb_mx _) (by omega)),Da h2.1 (q1H (Bd.nb_mx _) (by omega)),Da h2.2 (q1H (Bd.nb_mx _) (by omega))⟩
theorem q0K{m:Nat}{x:V3}(h:Bnd .rat (.n m) x.1∧Bnd .rat (.n m) x.2.1∧Bnd .rat (.n m) x.2.2):(WV.c (.agg [.dt tV3 (bV3 m) x])).ok:=El h
def B5(r:Rat)(p:V3):V3:=(r*p.1,r*p.2.1,r*p.2.2)
theorem FA{x y:Rat}{a b:Nat}(hx:Bnd .rat (.n a) x)(hy:Bnd .rat (.n b) y):Bnd .rat (.n (a+b)) (x*y):=CG hx hy
theorem TB{b c:Bd}{r:Rat}{q:V3}(hp:Bnd .rat b r)(hq:Bnd tV3 c q):Bnd tV3 (bV3 (b.mx+c.mx)) (B5 r q):=
 ⟨FA hp.ratM hq.v3.1,FA hp.ratM hq.v3.2.1,FA hp.ratM hq.v3.2.2⟩
theorem zi{x:Rat}{a b:Nat}(h:Bnd .rat (.n a) x)(hm:a≤b):Bnd .rat (.n b) x:=Da h hm
theorem My{p q:V3}:p=q↔p.1=q.1∧p.2.1=q.2.1∧p.2.2=q.2.2:=by
 obtain⟨a,b,c⟩:=p;obtain⟨d,e,f⟩:=q;simp
theorem If{p q:V3}(h: ¬p.1=q.1∨ ¬p.2.1=q.2.1∨ ¬p.2.2=q.2.2):false=decide (p=q):=by
 symm;apply decide_eq_false;intro e;subst e;simp at h
theorem Z3{p q:V3}(h1:p.1=q.1)(h2:p.2.1=q.2.1)(h3:p.2.2=q.2.2):true=decide (p=q):=(decide_eq_true (My.2 ⟨h1,h2,h3⟩)).symm
theorem nd{p:Prop}[Decidable p](h:(!decide p)=true): ¬p:=by simpa using h
theorem nd'{p:Prop}[Decidable p](h: ¬(!decide p)=true):p:=by simpa using h
theorem yd{p:Prop}[Decidable p](h:decide p=true):p:=of_decide_eq_true h
theorem yd'{p:Prop}[Decidable p](h: ¬decide p=true): ¬p:=fun e=>h (decide_eq_true e)
def c2(i:Nat):Rat:=[1,2,1].getD i 0
def c4(i:Nat):Rat:=[1,4,6,4,1].getD i 0
abbrev Pole:Type:=V3×Rat
abbrev KD:Ty:= .pr tV3 .rat
abbrev Four:Type:=Rat×Rat×Rat×Rat
abbrev KC:Ty:= .pr .rat (.pr .rat (.pr .rat .rat))
abbrev P2(m:Nat):Bd:= .p (.n m) (.p (.n m) (.p (.n m) (.n m)))
def Fk(p:Pole):Four:=(p.2*p.1.1,p.2*p.1.2.1,p.2*p.1.2.2,p.2)
theorem Bnd.pole{b:Bd}{x:Pole}(h:Bnd KD b x):(Bnd .rat (.n b.mx) x.1.1∧Bnd .rat (.n b.mx) x.1.2.1∧Bnd .rat (.n b.mx) x.1.2.2)∧Bnd .rat (.n b.mx) x.2:=by
 have h1:=h.pr
 have h2:=h1.1.v3
 have:=b.l_mx;have:=b.r_mx
 exact⟨⟨zi h2.1 (by omega),zi h2.2.1 (by omega),zi h2.2.2 (by omega)⟩,Da h1.2 (q1H (Bd.nb_mx _) (by omega))⟩
theorem NG{b:Bd}{p:Pole}(h:Bnd KD b p):Bnd KC (P2 (2*b.mx)) (Fk p):=by
 have h:=h.pole
 exact⟨zi (FA h.2 h.1.1) (by omega),zi (FA h.2 h.1.2.1) (by omega),zi (FA h.2 h.1.2.2) (by omega),zi h.2 (by omega)⟩
theorem nl64{x:Nat}(h:qH x 64):(limbs x).length≤2:=q1H (zX (q1F (show x<18446744073709551615+1 from h))) (by decide)
theorem nl32{x:Nat}(h:x≤4294967295):(limbs x).length≤1:=q1H (zX h) (by decide)
theorem sm_q{x:Rat}(h:qH x.num.natAbs 31∧le2 x.den 31): ¬bigQ x:=by
 have h1:x.num.natAbs<2147483648:=h.1
 have h2:x.den≤2147483648:=h.2
 have h3:=nl32 (x:=x.num.natAbs) (by omega)
 have h4:(denL x.den).length≤1:=by
  unfold denL
  split
  ·exact q23 _
  ·exact nl32 (by omega)
 unfold bigQ;omega
theorem Cr{x:Rat}(h:qH x.num.natAbs 31∧le2 x.den 31):pb x=true:=(p_sm (sm_q h)).2.2
theorem q0F{x y:Rat}(h:qH x.num.natAbs 31∧le2 x.den 31)(k:qH y.num.natAbs 31∧le2 y.den 31):cy (pn x*pd y) (pn y*pd x)=0:=by
 obtain⟨h1,h2,_⟩:=p_sm (sm_q h)
 obtain⟨k1,k2,_⟩:=p_sm (sm_q k)
 rw[←h1,←h2,←k1,←k2]
 have a1:x.num.natAbs≤2147483648:=q1E h.1
 have a2:x.den≤2147483648:=h.2
 have b1:y.num.natAbs≤2147483648:=q1E k.1
 have b2:y.den≤2147483648:=k.2
 have c1:=q1S a1 b2
 have c2:=q1S b1 a2
 unfold cy;omega
abbrev YY:FI:=⟨200,[(.sl (.nat .u32))],[(.s 1099511627776 (.n 4294967295))],fun z=>(fun(ls:List Nat)=>[∀u∈ls,u<4294967296]) z,fun b z=>(fun(ls:List Nat)=> .c (.one (.dt .mag (.n (32*(b0 b).len)) (qb ls)))) z⟩
theorem S3:YY.OK Tryz.prog:=j6 hmix 21 Tryz.func200 rfl rfl (by decide) [] (fun(ls:List Nat) b hx hp=>qp (DP (hp _ (q1k)) (Bnds.h1 hx).sl.1) rfl) (fun(ls:List Nat) hx hp=>by
 have hl0:ls.length≤1099511627776:=hx.1
 have hp0: ∀u∈ls,u<4294967296:=hp _ (q1k)
 refine⟨.loop [.s 3 (.nat .i64) (.n 1099511627776)] (fun(k:Nat)=>k≤ls.length∧qb (ls.take k)=qb ls) (fun(k:Nat)=>k) (fun(k:Nat)=> .cond (.h 2 5 (.i .sub) (.cond (.h 3 1 (.i .sub) (.nil)) (.h 4 2 (.mag (qb ls) 70368744177664) (.nil)))) (.h 4 2 (.mag (qb ls) 70368744177664) (.nil))),kcast (by kernel_rfl) (I (⟨q1G _,by rw[q1s]⟩:ls.length≤ls.length∧qb (ls.take ls.length)=qb ls) (fun(k:Nat)(hb1:HB [.s 3 (.nat .i64) (.n 1099511627776)] k)(hC:k≤ls.length∧qb (ls.take k)=qb ls)=>have hv6:=(show k≤1099511627776 from hb1);have hk:=hC.1;Sp (0<k) (fun h2=>I (?_:1≤k) (I (?_:k-1<ls.length) (Sp (ls.getD (k-1) 0=0) (fun h3=>I (?_:1≤k) (q0O (⟨by omega,K5 hC.1 (by omega) hC.2 (by omega)⟩:k-1≤ls.length∧qb (ls.take (k-1))=qb ls) (?_:k-1<k))) (fun h4=>I (?_:k≤ls.length) (I (Az hp0 hC.1 hC.2 (by omega):ls.take k=limbs (qb ls)) (I (qi (by decide) (DP hp0 hl0):qH (qb ls) 70368744177664) ((Eq.refl (qb ls))))))))) (fun h5=>I (?_:k≤ls.length) (I (Az hp0 hC.1 hC.2 (by omega):ls.take k=limbs (qb ls)) (I (qi (by decide) (DP hp0 hl0):qH (qb ls) 70368744177664) ((Eq.refl (qb ls))))))))⟩<;>omega)
abbrev S2:Ctr Tryz.prog:=FI.c S3
abbrev S1(b:List Bd)(ls:List Nat):WV:= .c (.one (.dt .mag (.n (32*(b0 b).len)) (qb ls)))
theorem TM(ls:List Nat)(hx:Bnds [(.sl (.nat .u32))] [(.s 1099511627776 (.n 4294967295))] ls)(hp: ∀c0∈([∀u∈ls,u<4294967296]:List Prop),c0):Sig Tryz.prog 200 (argsE [(.sl (.nat .u32))] ls) (S1 [(.s 1099511627776 (.n 4294967295))] ls).exp:=S3.sig ls hx hp
theorem TL(b:List Bd)(x:Nat)(hx:Bnds [.mag] b x)(hp: ∀p∈([]:List Prop),p):(WV.c (.one (.dt .mag (b0 b) x))).ok:=qp (Bnds.h1 hx) rfl
theorem K4(x:Nat)(hx:Bnds [.mag] [.n 1099511627776] x)(hp: ∀p∈([]:List Prop),p):Sig Tryz.prog 200 (argsE [.mag] x) (WV.c (.one (.dt .mag (.n 1099511627776) x))).exp:=by
 have h:=TM (limbs x) ⟨q1H (qo (q1E hx)) (by decide),(Bnd.limbs hx).2⟩ (by intro p hp;simp only[q1i,q1q,or_false]at hp;subst hp;exact jU x)
 unfold S1 at h;rw[qO,←Em]at h;exact h
def J3:Ctr Tryz.prog:=⟨200,[.mag],[.n 1099511627776],fun z=>[],fun b z=> .c (.one (.dt .mag (b0 b) z)),fun z hx hp=>K4 z hx hp,fun _ _=>rfl,fun b z hx hp=>TL b z hx hp⟩
abbrev ZK:FI:=⟨143,[.mag,.mag],[(.n 1099511627776),(.n 1099511627776)],fun _=>[],fun b z=>(fun(x:Nat)(y:Nat)=> .c (.one (.dt (.int .i64) (.n 1) (qR x y)))) z.1 z.2⟩
theorem ZM:ZK.OK Tryz.prog:=j6 hmix 45 Tryz.func143 rfl rfl (by decide) [(200,.c J3)] (fun(x:Nat)(y:Nat) b hx hp=>qp (Nu x y) rfl) (fun(x:Nat)(y:Nat) hx hp=>by
 have hx0:qH x 1099511627776:=hx.1
 have hl0:(limbs x).length≤34359738369:=qo (q1E hx0)
 have hx1:qH y 1099511627776:=hx.2
 have hl1:(limbs y).length≤34359738369:=qo (q1E hx1)
 refine⟨.cond (.nil) (.loop [.s 5 (.int .i64) (.n 68719476736)] (fun(z:Int)=>CmpI x y z) (fun(z:Int)=>(z+1).toNat) (fun(z:Int)=> .cond (.h 9 2 (.ix z.toNat) (.h 9 6 (.ix z.toNat) (.cond (.h 10 2 (.ix z.toNat) (.h 10 6 (.ix z.toNat) (.nil))) (.nil)))) (.nil))),kcast (by kernel_rfl) (Sp ((limbs x).length≠(limbs y).length) (fun h1=>Sp ((limbs x).length<(limbs y).length) (fun h2=>(?_:(-1)=qR x y)) (fun h3=>(?_:1=qR x y))) (fun h4=>I (CmpI.start (by omega):CmpI x y ((((limbs x).length:Nat):Int) -1)) (fun(z:Int)(hb5:HB [.s 5 (.int .i64) (.n 68719476736)] z)(hC:CmpI x y z)=>have hv12:=(show Int.natAbs z≤68719476736 from hb5);have hC0:=hC.h0;have hC1:=hC.h1;Sp (0≤z) (fun h6=>I (?_:z=((z.toNat:Nat):Int)) (I (?_:z.toNat<(limbs x).length) (I (?_:z=((z.toNat:Nat):Int)) (I (?_:z.toNat<(limbs y).length) (Sp ((limbs x).getD z.toNat 0≠(limbs y).getD z.toNat 0) (fun h7=>I (?_:z=((z.toNat:Nat):Int)) (I (?_:z.toNat<(limbs x).length) (I (?_:z=((z.toNat:Nat):Int)) (I (?_:z.toNat<(limbs y).length) (Sp ((limbs x).getD z.toNat 0<(limbs y).getD z.toNat 0) (fun h8=>(?_:(-1)=qR x y)) (fun h9=>(?_:1=qR x y))))))) (fun h10=>I (show Int.natAbs (z-1)≤68719476736 by omega:Bnd (.int .i64) (.n 68719476736) (z-1)) (q0O ((hC.at (by omega) (by omega)).1 (by omega):CmpI x y (z-1)) (?_:((z-1)+1).toNat<(z+1).toNat)))))))) (fun h11=>((hC.fin (by omega)).symm:0=qR x y)))))⟩<;>first|omega|(first|exact(L5 (by omega)).symm|exact((hC.at (by omega) (by omega)).2.1 (by omega)).symm)|(first|exact(L6 (by omega)).symm|exact((hC.at (by omega) (by omega)).2.2 (by omega)).symm))
abbrev ZJ:Ctr Tryz.prog:=FI.c ZM
abbrev Wp:FI:=⟨241,[.mag,(.nat .u32)],[(.n 1099511627776),(.n 4294967295)],fun z=>(fun(x:Nat)(u:Nat)=>[0<u]) z.1 z.2,fun b z=>(fun(x:Nat)(u:Nat)=> .tup [.one (.dt .mag (b0 b) (x/u)),.one (.dt (.nat .u32) (b1 b) (x%u))]) z.1 z.2⟩
theorem Wq:Wp.OK Tryz.prog:=j6 hmix 43 Tryz.func241 rfl rfl (by decide) [] (fun(x:Nat)(u:Nat) b hx hp=>jb (qp ((Bnds.h2 hx).1.magLe (q1z _ _)) rfl) (jb (qp ((Bnds.h2 hx).2.natLe (q1E (q1N _ (hp _ (q1k))))) rfl) zk)) (fun(x:Nat)(u:Nat) hx hp=>by
 have hx0:qH x 1099511627776:=hx.1
 have hl0:(limbs x).length≤34359738369:=qo (q1E hx0)
 have hx1:u≤4294967295:=hx.2
 have hp0:0<u:=hp _ (q1k)
 refine⟨.h 1 2 (.mk (.arr (.nat .u32) (.n 4294967295))) (.loop [.s 8 (.int .i64) (.n 34359738370),.s 7 (.nat .u64) (.n 4294967295),.a 11 (.nat .u32) (.n 4294967295)] (fun((z,r,out):Int×Nat×List Nat)=>SmallZ x u z r out) (fun((z,r,out):Int×Nat×List Nat)=>(z+1).toNat) (fun((z,r,out):Int×Nat×List Nat)=> .cond (.h 6 4 (.ix z.toNat) (.h 6 7 (.i (.n ((r*2^32)+((limbs x).getD z.toNat 0)) 18446744073709551615)) (.h 7 7 (.ix z.toNat) (.nil)))) (.pre 9 (.frz 11 true [6,7]) (.h 9 1 (.c S2) (.nil))))),kcast (by kernel_rfl) (I (?_:(limbs x).length=(limbs x).length) (I (SmallZ.start hp0:SmallZ x u ((((limbs x).length:Nat):Int) -1) 0 (List.replicate ((limbs x).length) (0:Nat))) (fun(z:Int)(r:Nat)(out:List Nat)(hb1:HB [.s 8 (.int .i64) (.n 34359738370),.s 7 (.nat .u64) (.n 4294967295),.a 11 (.nat .u32) (.n 4294967295)] (z,r,out))(hI:SmallZ x u z r out)=>have hv4:=(show Int.natAbs z≤34359738370 from hb1.1);have hv5:=(show r≤4294967295 from hb1.2.1);have hv6:=(show∀u∈out,u≤4294967295 from hb1.2.2);have hB:=hI.b;Sp (0≤z) (fun h2=>I (?_:z=((z.toNat:Nat):Int)) (I (?_:z.toNat<(limbs x).length) (I (P3 _ 32 rfl (qr _ _) (by have:=qr x z.toNat;omega):zo .or .u64 ((r*2^32:Nat):Int) (((limbs x).getD z.toNat 0:Nat):Int) (((r*2^32)+((limbs x).getD z.toNat 0):Nat):Int)) (I (by have:=qr x z.toNat;omega:(r*2^32)+((limbs x).getD z.toNat 0)≤18446744073709551615) (I (?_:0<u) (I (?_:z=((z.toNat:Nat):Int)) (I (?_:z.toNat<(limbs x).length) (I (?_:z.toNat<out.length) (I (?_:0<u) (I (show Int.natAbs (z-1)≤34359738370 by omega:Bnd (.int .i64) (.n 34359738370) (z-1)) (q0O (hI.step (by omega) rfl:SmallZ x u (z-1) (((r*2^32)+((limbs x).getD z.toNat 0))%u) (out.set z.toNat ((((r*2^32)+((limbs x).getD z.toNat 0))/u)%4294967296))) (?_:((z-1)+1).toNat<(z+1).toNat)))))))))))) (fun h3=>I (?_:(limbs x).length=out.length) (have hF:=hI.fin (by omega);I (hF.2.2: ∀u∈out,u<4294967296) (q0O (hF.1:qb out=x/u) (hF.2.1:r=x%u)))))))⟩<;>omega)
abbrev VK:FI:=⟨234,[.mag],[(.n 1099511627776)],fun z=>(fun(x:Nat)=>[(limbs x).length≤2]) z,fun b z=>(fun(x:Nat)=> .c (.one (.dt (.nat .u64) (.n 18446744073709551615) x))) z⟩
theorem VM:VK.OK Tryz.prog:=j6 hmix 21 Tryz.func234 rfl rfl (by decide) [] (fun(x:Nat) b hx hp=>qp (q1F (LU (hp _ (q1k)))) rfl) (fun(x:Nat) hx hp=>by
 have hx0:qH x 1099511627776:=hx
 have hl0:(limbs x).length≤34359738369:=qo (q1E hx0)
 have hp0:(limbs x).length≤2:=hp _ (q1k)
 refine⟨.loop [.s 4 (.int .i64) (.n 68719476736),.s 3 (.nat .u64) (.n 18446744073709551615)] (fun((z,v):Int×Nat)=>WordZ x z v) (fun((z,v):Int×Nat)=>(z+1).toNat) (fun((z,v):Int×Nat)=> .cond (.h 5 1 (.i (.n (v*2^32) 18446744073709551615)) (.h 5 4 (.ix z.toNat) (.h 5 7 (.i (.n ((v*2^32)+((limbs x).getD z.toNat 0)) 18446744073709551615)) (.nil)))) (.nil)),kcast (by kernel_rfl) (I (WordZ.start x:WordZ x ((((limbs x).length:Nat):Int) -1) 0) (fun(z:Int)(v:Nat)(hb1:HB [.s 4 (.int .i64) (.n 68719476736),.s 3 (.nat .u64) (.n 18446744073709551615)] (z,v))(hI:WordZ x z v)=>have hv4:=(show Int.natAbs z≤68719476736 from hb1.1);have hv5:=(show v≤18446744073709551615 from hb1.2);have hB0:=hI.h0;have hB1:=hI.h1;Sp (0≤z) (fun h2=>have hw:=hI.lt hp0 (by omega);I (Qh v 32 (by omega) (by omega):zo .shl .u64 (v:Int) 32 ((v*2^32:Nat):Int)) (I (?_:v*2^32≤18446744073709551615) (I (?_:z=((z.toNat:Nat):Int)) (I (?_:z.toNat<(limbs x).length) (I (P3 _ 32 rfl (qr _ _) (by have:=qr x z.toNat;omega):zo .or .u64 ((v*2^32:Nat):Int) (((limbs x).getD z.toNat 0:Nat):Int) (((v*2^32)+((limbs x).getD z.toNat 0):Nat):Int)) (I (by have:=qr x z.toNat;omega:(v*2^32)+((limbs x).getD z.toNat 0)≤18446744073709551615) (I (show Int.natAbs (z-1)≤68719476736 by omega:Bnd (.int .i64) (.n 68719476736) (z-1)) (q0O (hI.step (by omega):WordZ x (z-1) ((v*2^32)+((limbs x).getD z.toNat 0))) (?_:((z-1)+1).toNat<(z+1).toNat))))))))) (fun h3=>(hI.fin (by omega):v=x))))⟩<;>omega)
abbrev VJ:Ctr Tryz.prog:=FI.c VM
abbrev Wg:FI:=⟨199,[.mag],[(.n 1099511627776)],fun z=>(fun(x:Nat)=>[(limbs x).length≤2]) z,fun b z=>(fun(x:Nat)=> .c (.one (.dt (.nat .u64) (.n 18446744073709551615) x))) z⟩
theorem Wh:Wg.OK Tryz.prog:=j6 hmix 21 Tryz.func199 rfl rfl (by decide) [] (fun(x:Nat) b hx hp=>qp (q1F (LU (hp _ (q1k)))) rfl) (fun(x:Nat) hx hp=>by
 have hx0:qH x 1099511627776:=hx
 have hl0:(limbs x).length≤34359738369:=qo (q1E hx0)
 have hp0:(limbs x).length≤2:=hp _ (q1k)
 refine⟨.loop [.s 4 (.int .i64) (.n 68719476736),.s 3 (.nat .u64) (.n 18446744073709551615)] (fun((z,v):Int×Nat)=>WordZ x z v) (fun((z,v):Int×Nat)=>(z+1).toNat) (fun((z,v):Int×Nat)=> .cond (.h 5 1 (.i (.n (v*2^32) 18446744073709551615)) (.h 5 4 (.ix z.toNat) (.h 5 7 (.i (.n ((v*2^32)+((limbs x).getD z.toNat 0)) 18446744073709551615)) (.nil)))) (.nil)),kcast (by kernel_rfl) (I (WordZ.start x:WordZ x ((((limbs x).length:Nat):Int) -1) 0) (fun(z:Int)(v:Nat)(hb1:HB [.s 4 (.int .i64) (.n 68719476736),.s 3 (.nat .u64) (.n 18446744073709551615)] (z,v))(hI:WordZ x z v)=>have hv4:=(show Int.natAbs z≤68719476736 from hb1.1);have hv5:=(show v≤18446744073709551615 from hb1.2);have hB0:=hI.h0;have hB1:=hI.h1;Sp (0≤z) (fun h2=>have hw:=hI.lt hp0 (by omega);I (Qh v 32 (by omega) (by omega):zo .shl .u64 (v:Int) 32 ((v*2^32:Nat):Int)) (I (?_:v*2^32≤18446744073709551615) (I (?_:z=((z.toNat:Nat):Int)) (I (?_:z.toNat<(limbs x).length) (I (P3 _ 32 rfl (qr _ _) (by have:=qr x z.toNat;omega):zo .or .u64 ((v*2^32:Nat):Int) (((limbs x).getD z.toNat 0:Nat):Int) (((v*2^32)+((limbs x).getD z.toNat 0):Nat):Int)) (I (by have:=qr x z.toNat;omega:(v*2^32)+((limbs x).getD z.toNat 0)≤18446744073709551615) (I (show Int.natAbs (z-1)≤68719476736 by omega:Bnd (.int .i64) (.n 68719476736) (z-1)) (q0O (hI.step (by omega):WordZ x (z-1) ((v*2^32)+((limbs x).getD z.toNat 0))) (?_:((z-1)+1).toNat<(z+1).toNat))))))))) (fun h3=>(hI.fin (by omega):v=x))))⟩<;>omega)
abbrev OB:Ctr Tryz.prog:=FI.c Wh
abbrev of_i:FI:=⟨207,[(.nat .u64)],[(.n 18446744073709551615)],fun _=>[],fun b z=>(fun(x:Nat)=> .c (.one (.dt .mag (.n (Nat.log2 (b0 b).nb+1)) (x)))) z⟩
theorem of_k:of_i.OK Tryz.prog:=j6 hmix 10 Tryz.func207 rfl rfl (by decide) [] (fun(x:Nat) b hx hp=>qp (q1I (Bnds.h1 hx).nat Nat.lt_log2_self) rfl) (fun(x:Nat) hx hp=>by
 have hx0:x≤18446744073709551615:=hx
 refine⟨.h 1 5 (.mk (.im (.nat .u32) (.n 4294967295))) (.h 1 6 (.c S2) (.nil)),kcast (by kernel_rfl) (I (by intro u hu;simp only[q1i,q1q,or_false]at hu;omega: ∀u∈[x%4294967296,x/2^32],u<4294967296) ((by simp only[qb];omega:qb [x%4294967296,x/2^32]=x)))⟩)
abbrev of_c:Ctr Tryz.prog:=FI.c of_k
abbrev Tb:FI:=⟨178,[(.sl (.nat .u32))],[(.s 1099511627776 (.n 4294967295))],fun z=>(fun(ls:List Nat)=>[ls.length=0∨ls.getD (ls.length-1) 0≠0]) z,fun b z=> .c (.one (.vl (.bool true)))⟩
theorem Tc:Tb.OK Tryz.prog:=j6 hmix 15 Tryz.func178 rfl rfl (by decide) [] (fun(ls:List Nat) b hx hp=>UE rfl) (fun(ls:List Nat) hx hp=>by
 have hl0:ls.length≤1099511627776:=hx.1
 have hp0:ls.length=0∨ls.getD (ls.length-1) 0≠0:=hp _ (q1k)
 refine⟨.cond (.nil) (.h 1 7 (.i .sub) (.nil)),kcast (by kernel_rfl) (Sp (ls.length=0) (fun h1=>trivial) (fun h2=>I (?_:1≤ls.length) (I (?_:ls.length-1<ls.length) ((?_:ls.getD (ls.length-1) 0≠0)))))⟩<;>omega)
abbrev Ta:Ctr Tryz.prog:=FI.c Tc
def tab8:ByteArray:=⟨#[0,1,2,2,3,3,3,3,4,4,4,4,4,4,4,4,5,5,5,5,5,5,5,5,5,5,5,5,5,5,5,5,6,6,6,6,6,6,6,6,6,6,6,6,6,6,6,6,6,6,6,6,6,6,6,6,6,6,6,6,6,6,6,6,7,7,7,7,7,7,7,7,7,7,7,7,7,7,7,7,7,7,7,7,7,7,7,7,7,7,7,7,7,7,7,7,7,7,7,7,7,7,7,7,7,7,7,7,7,7,7,7,7,7,7,7,7,7,7,7,7,7,7,7,7,7,7,7,8,8,8,8,8,8,8,8,8,8,8,8,8,8,8,8,8,8,8,8,8,8,8,8,8,8,8,8,8,8,8,8,8,8,8,8,8,8,8,8,8,8,8,8,8,8,8,8,8,8,8,8,8,8,8,8,8,8,8,8,8,8,8,8,8,8,8,8,8,8,8,8,8,8,8,8,8,8,8,8,8,8,8,8,8,8,8,8,8,8,8,8,8,8,8,8,8,8,8,8,8,8,8,8,8,8,8,8,8,8,8,8,8,8,8,8,8,8,8,8,8,8,8,8,8,8,8,8]⟩
abbrev UU:FO:=⟨105,[(.sl (.nat .u32))],[(.s 1099511627776 (.n 4294967295))],fun _=>[],fun k b z=>(fun(ls:List Nat)=> .c (.one (.gs k (ls.length) 1 ((b0 b).len)))) z,fun b z=>(fun(ls:List Nat)=> .gro (.nat .u32) ((b0 b).e) (ls)) z⟩
theorem UV:UU.OK Tryz.prog:=mkO hmix 8 7 Tryz.func105 rfl rfl (by decide) [] (fun _=>rfl) (fun _ _ _=>rfl) (fun _ _=>rfl) (fun _ _ _=>⟨rfl,rfl⟩) (fun(ls:List Nat) k b hx hp=>⟨qp (Bnds.h1 hx).sl.1 rfl,(Bnds.h1 hx).sl.2⟩) (fun(ls:List Nat) hx hp=>by
 have hl0:ls.length≤1099511627776:=hx.1
 refine bodyO.g (.cond (.nil) (.h 3 0 (.mk (.gro (.nat .u32) (.n 4294967295))) (.nil))) (kcast (by kernel_rfl) (q0O (fun(h1:ls=[])=>q0O (h1.symm:([]:List Nat)=ls) ((by rw[h1];rfl:0=ls.length))) (I (rfl:0=([]:List Nat).length) (q0O (rfl:([]:List Nat)++ls=ls) ((?_:0+ls.length=ls.length))))))<;>omega)
abbrev UT(k:Nat)(b:List Bd)(ls:List Nat):WV:= .c (.one (.gs k (ls.length) 1 ((b0 b).len)))
abbrev US(b:List Bd)(ls:List Nat):WB:= .gro (.nat .u32) ((b0 b).e) (ls)
theorem Qm(d:Nat)(ls:List Nat)(hx:Bnds [(.sl (.nat .u32))] [(.s 1099511627776 (.n 4294967295))] ls)(hp: ∀c0∈([]:List Prop),c0):SigG Tryz.prog 105 (argsE [(.sl (.nat .u32))] ls) [] (UT d [(.s 1099511627776 (.n 4294967295))] ls).exp [(d,some (US [(.s 1099511627776 (.n 4294967295))] ls).exp)]:=UV.sig d ls hx hp
def BH:Ctr Tryz.prog:=⟨105,[.sl (.nat .u32)],[.s 1099511627776 (.n 4294967295)],fun z=>[],fun b z=> .c (.one (.dt (.sl (.nat .u32)) (b0 b) z)),fun z hx hp=>frzO (Qm 0 z hx hp) (by decide) rfl _,fun _ _=>rfl,fun b z hx hp=>qp (Bnds.h1 hx) rfl⟩
theorem P6(x:Nat)(hx:Bnds [.mag] [.n 1099511627776] x):Sig Tryz.prog 105 (argsE [.mag] x) (WV.c (.one (.dt .mag (.n 1099511627776) x))).exp:=by
 have h:=BH.sig (limbs x) ⟨q1H (qo (q1E hx)) (by decide),(Bnd.limbs hx).2⟩ (by intro p hp;cases hp)
 have e:(BH.res BH.bs (limbs x)).exp=(WV.c (.one (.dt .mag (.n 1099511627776) x))).exp:=magE x _ _
 rw[e]at h
 rw[Em];exact h
def Gf:Ctr Tryz.prog:=⟨105,[.mag],[.n 1099511627776],fun z=>[],fun b z=> .c (.one (.dt .mag (b0 b) z)),fun z hx hp=>P6 z hx,fun _ _=>rfl,fun b z hx hp=>qp (Bnds.h1 hx) rfl⟩
theorem bl_8{x:Nat}(h:x<256):bl x≤8:=by
 have h1:=U8 x
 rcases q1C x with e|e
 ·subst e;decide
 ·have h2:=P4 (n:=x) (by omega)
  apply q1F
  apply Nat.lt_of_not_le
  intro h3
  have:=q1Y (show 0<2 by omega) (show 8≤bl x-1 by omega)
  omega
abbrev Vv:FI:=⟨233,[(.nat .u32)],[(.n 4294967295)],fun _=>[],fun b z=>(fun(x:Nat)=> .c (.one (.dt (.nat .i64) (.n (Nat.log2 (b0 b).nb+1)) (bl x)))) z⟩
theorem Vw:Vv.OK Tryz.prog:=j6 hmix 19 Tryz.func233 rfl rfl (by decide) [] (fun(x:Nat) b hx hp=>qp (X6 (Bnds.h1 hx).nat) rfl) (fun(x:Nat) hx hp=>by
 have hx0:x≤4294967295:=hx
 have h1:65536≤x→bl x=bl (x/2^16)+16:=fun h=>BF (k:=16) h
 have h2:256≤x/2^16→bl (x/2^16)=bl (x/2^16/2^8)+8:=fun h=>BF (k:=8) h
 have h3:256≤x→bl x=bl (x/2^8)+8:=fun h=>BF (k:=8) h
 refine⟨.cond (.cond (.h 7 2 (.i (.n (((x/2^16)/2^8)%256) 255)) (.h 7 3 (.any [.c (.one (.vl (.string tab8))),.c (.one (.dt (.nat .u8) (.n 255) (((x/2^16)/2^8)%256)))] (.c (.one (.dt (.nat .u8) (.n 8) (bl (((x/2^16)/2^8)%256))))) (qp (bl_8 (q1N _ (by decide))) rfl) (Op.index 9 (.const (.string tab8)) (.tmp 15)) (fun _=>Fl (j:=(((x/2^16)/2^8)%256)) (by kernel_rfl) rfl (q1N _ (by decide)) (by kernel_rfl))) (.nil))) (.h 7 2 (.i (.n ((x/2^16)%256) 255)) (.h 7 3 (.any [.c (.one (.vl (.string tab8))),.c (.one (.dt (.nat .u8) (.n 255) ((x/2^16)%256)))] (.c (.one (.dt (.nat .u8) (.n 8) (bl ((x/2^16)%256))))) (qp (bl_8 (q1N _ (by decide))) rfl) (Op.index 9 (.const (.string tab8)) (.tmp 15)) (fun _=>Fl (j:=((x/2^16)%256)) (by kernel_rfl) rfl (q1N _ (by decide)) (by kernel_rfl))) (.nil)))) (.cond (.h 7 2 (.i (.n ((x/2^8)%256) 255)) (.h 7 3 (.any [.c (.one (.vl (.string tab8))),.c (.one (.dt (.nat .u8) (.n 255) ((x/2^8)%256)))] (.c (.one (.dt (.nat .u8) (.n 8) (bl ((x/2^8)%256))))) (qp (bl_8 (q1N _ (by decide))) rfl) (Op.index 9 (.const (.string tab8)) (.tmp 15)) (fun _=>Fl (j:=((x/2^8)%256)) (by kernel_rfl) rfl (q1N _ (by decide)) (by kernel_rfl))) (.nil))) (.h 7 2 (.i (.n (x%256) 255)) (.h 7 3 (.any [.c (.one (.vl (.string tab8))),.c (.one (.dt (.nat .u8) (.n 255) (x%256)))] (.c (.one (.dt (.nat .u8) (.n 8) (bl (x%256))))) (qp (bl_8 (q1N _ (by decide))) rfl) (Op.index 9 (.const (.string tab8)) (.tmp 15)) (fun _=>Fl (j:=(x%256)) (by kernel_rfl) rfl (q1N _ (by decide)) (by kernel_rfl))) (.nil)))),kcast (by kernel_rfl) (Sp (65536≤x) (fun h1=>Sp (256≤x/2^16) (fun h2=>I (Hv _:IntKind.wrap .u8 (((x/2^16)/2^8:Nat):Int)=((((x/2^16)/2^8)%256:Nat):Int)) (I (?_:((x/2^16)/2^8)%256≤255) (I (rfl:([.c (.one (.vl (.string tab8))),.c (.one (.dt (.nat .u8) (.n 255) (((x/2^16)/2^8)%256)))]:List WV)=[.c (.one (.vl (.string tab8))),.c (.one (.dt (.nat .u8) (.n 255) (((x/2^16)/2^8)%256)))]) (I (rfl:(Op.index 9 (.const (.string tab8)) (.tmp 15):Op)=Op.index 9 (.const (.string tab8)) (.tmp 15)) ((by rw[q1M (show((x/2^16)/2^8)<256 by omega)];omega:24+(bl (((x/2^16)/2^8)%256))=bl x)))))) (fun h3=>I (Hv _:IntKind.wrap .u8 ((x/2^16:Nat):Int)=(((x/2^16)%256:Nat):Int)) (I (?_:(x/2^16)%256≤255) (I (rfl:([.c (.one (.vl (.string tab8))),.c (.one (.dt (.nat .u8) (.n 255) ((x/2^16)%256)))]:List WV)=[.c (.one (.vl (.string tab8))),.c (.one (.dt (.nat .u8) (.n 255) ((x/2^16)%256)))]) (I (rfl:(Op.index 9 (.const (.string tab8)) (.tmp 15):Op)=Op.index 9 (.const (.string tab8)) (.tmp 15)) ((by rw[q1M (show(x/2^16)<256 by omega)];omega:16+(bl ((x/2^16)%256))=bl x))))))) (fun h4=>Sp (256≤x) (fun h5=>I (Hv _:IntKind.wrap .u8 ((x/2^8:Nat):Int)=(((x/2^8)%256:Nat):Int)) (I (?_:(x/2^8)%256≤255) (I (rfl:([.c (.one (.vl (.string tab8))),.c (.one (.dt (.nat .u8) (.n 255) ((x/2^8)%256)))]:List WV)=[.c (.one (.vl (.string tab8))),.c (.one (.dt (.nat .u8) (.n 255) ((x/2^8)%256)))]) (I (rfl:(Op.index 9 (.const (.string tab8)) (.tmp 15):Op)=Op.index 9 (.const (.string tab8)) (.tmp 15)) ((by rw[q1M (show(x/2^8)<256 by omega)];omega:8+(bl ((x/2^8)%256))=bl x)))))) (fun h6=>I (Hv _:IntKind.wrap .u8 (x:Int)=((x%256:Nat):Int)) (I (?_:x%256≤255) (I (rfl:([.c (.one (.vl (.string tab8))),.c (.one (.dt (.nat .u8) (.n 255) (x%256)))]:List WV)=[.c (.one (.vl (.string tab8))),.c (.one (.dt (.nat .u8) (.n 255) (x%256)))]) (I (rfl:(Op.index 9 (.const (.string tab8)) (.tmp 15):Op)=Op.index 9 (.const (.string tab8)) (.tmp 15)) ((by rw[q1M (show x<256 by omega)];omega:0+(bl (x%256))=bl x))))))))⟩<;>omega)
abbrev Vu:Ctr Tryz.prog:=FI.c Vw
abbrev X4:FI:=⟨179,[.mag],[(.n 1099511627776)],fun _=>[],fun b z=>(fun(x:Nat)=> .c (.one (.dt (.nat .i64) (b0 b) (bl x)))) z⟩
theorem X5:X4.OK Tryz.prog:=j6 hmix 20 Tryz.func179 rfl rfl (by decide) [(200,.c J3),(233,.c Vu)] (fun(x:Nat) b hx hp=>qp (Qj (Bnds.h1 hx)) rfl) (fun(x:Nat) hx hp=>by
 have hx0:qH x 1099511627776:=hx
 have hl0:(limbs x).length≤34359738369:=qo (q1E hx0)
 refine⟨.cond (.nil) (.h 4 2 (.i .sub) (.h 4 7 (.i .sub) (.nil))),kcast (by kernel_rfl) (Sp ((limbs x).length=0) (fun h1=>(by have:=(nl0 (x:=x)).1 (by omega);subst this;rfl:0=bl x)) (fun h2=>have hpos:=(show 0<(limbs x).length by omega);have hBB:=Nr hpos;I (?_:1≤(limbs x).length) (I (?_:1≤(limbs x).length) (I (?_:((limbs x).length) -1<(limbs x).length) ((?_:(32*(((limbs x).length) -1))+(bl ((limbs x).getD (((limbs x).length) -1) 0))=bl x))))))⟩<;>omega)
abbrev H7:Ctr Tryz.prog:=FI.c X5
abbrev ZU:FI:=⟨180,[.mag,.mag],[(.n 64),(.n 64)],fun _=>[],fun b z=>(fun(x:Nat)(y:Nat)=> .c (.one (.dt .mag (.n (max (b0 b).nb (b1 b).nb)) (Nat.gcd x y)))) z.1 z.2⟩
theorem ZV:ZU.OK Tryz.prog:=j6 hmix 61 Tryz.func180 rfl rfl (by decide) [(105,.c Gf),(200,.c J3),(207,.c of_c),(234,.c VJ)] (fun(x:Nat)(y:Nat) b hx hp=>qp (O1 (Bnds.h2 hx).1.mag (Bnds.h2 hx).2.mag) rfl) (fun(x:Nat)(y:Nat) hx hp=>by
 have hx0:qH x 64:=hx.1
 have hl0:(limbs x).length≤3:=qo (q1E hx0)
 have hx1:qH y 64:=hx.2
 have hl1:(limbs y).length≤3:=qo (q1E hx1)
 refine⟨.loop [.s 5 .mag (.n 64),.s 6 .mag (.n 64)] (fun((a,b):Nat×Nat)=>a=x∧b=y) (fun((a,b):Nat×Nat)=>0) (fun((a,b):Nat×Nat)=> .cond (.dead) (.cond (.nil) (.cond (.dead) (.loop [.s 13 (.nat .u64) (.n 18446744073709551615),.s 14 (.nat .u64) (.n 18446744073709551615)] (fun((u,v):Nat×Nat)=>Nat.gcd u v=Nat.gcd x y) (fun((u,v):Nat×Nat)=>v) (fun((u,v):Nat×Nat)=> .nil))))),kcast (by kernel_rfl) (I (⟨rfl,rfl⟩:x=x∧y=y) (fun(a:Nat)(b:Nat)(hb1:HB [.s 5 .mag (.n 64),.s 6 .mag (.n 64)] (a,b))(hC:a=x∧b=y)=>have ha2:=(nl64 (by rw[hC.1];exact hx0):(limbs a).length≤2);have hb2:=(nl64 (by rw[hC.2];exact hx1):(limbs b).length≤2);Sp (2<(limbs b).length) (fun h2=>(absurd hb2 (by omega):False)) (fun h3=>Sp ((limbs b).length=0) (fun h4=>(by have e:=nl0.1 (show(limbs b).length=0 by omega);rw[←hC.1,←hC.2,e,Nat.gcd_zero_right]:a=Nat.gcd x y)) (fun h5=>Sp (2<(limbs a).length) (fun h6=>(absurd ha2 (by omega):False)) (fun h7=>I (ha2:(limbs a).length≤2) (I (hb2:(limbs b).length≤2) (I (by rw[hC.1,hC.2]:Nat.gcd a b=Nat.gcd x y) (fun(u:Nat)(v:Nat)(hb8:HB [.s 13 (.nat .u64) (.n 18446744073709551615),.s 14 (.nat .u64) (.n 18446744073709551615)] (u,v))(hK:Nat.gcd u v=Nat.gcd x y)=>have hv11:=(show u≤18446744073709551615 from hb8.1);have hv12:=(show v≤18446744073709551615 from hb8.2);Sp (v≠0) (fun h9=>I (?_:0<v) (q0O ((Gp u v).trans hK:Nat.gcd v (u%v)=Nat.gcd x y) (q1N _ (by omega):u%v<v))) (fun h10=>(by rw[show v=0 by omega,Nat.gcd_zero_right]at hK;exact hK:u=Nat.gcd x y))))))))))⟩<;>omega)
abbrev gcd_c:Ctr Tryz.prog:=FI.c ZV
abbrev YC:FI:=⟨150,[],[],fun _=>[],fun b z=> .c (.one (.dt .mag (.n (1)) (1)))⟩
theorem YD:YC.OK Tryz.prog:=j6 hmix 2 Tryz.func150 rfl rfl (by decide) [] (fun  b hx hp=>qp (IK rfl) rfl) (fun  hx hp=>by
 refine⟨.h 1 0 (.mk (.im (.nat .u32) (.n 4294967295))) (.h 1 1 (.mag 1 1) (.nil)),kcast (by kernel_rfl) (I (B1.symm:[1]=limbs 1) (I (IK rfl:qH 1 1) ((Eq.refl 1))))⟩)
abbrev RF:Ctr Tryz.prog:=FI.c YD
abbrev W8:FI:=⟨149,[(.int .i64)],[(.n 9223372036854775807)],fun _=>[],fun b z=>(fun(v:Int)=> .c (.one (.dt .mag (.n (Nat.log2 (b0 b).nb+1)) (v.natAbs)))) z⟩
theorem W9:W8.OK Tryz.prog:=j6 hmix 12 Tryz.func149 rfl rfl (by decide) [(207,.c of_c)] (fun(v:Int) b hx hp=>qp (wZ (Bnds.h1 hx).int) rfl) (fun(v:Int) hx hp=>by
 have hx0:Int.natAbs v≤9223372036854775807:=hx
 refine⟨.cond (.dead) (.h 3 4 (.i (.n v.natAbs 9223372036854775807)) (.nil)),kcast (by kernel_rfl) (Sp (v=(-9223372036854775808)) (fun h1=>(?_:False)) (fun h2=>I (by rw[show max v (-v)=((v.natAbs:Nat):Int) by omega];exact Bb (by omega):IntKind.wrap .u64 (max v (-v))=((v.natAbs:Nat):Int)) (I (?_:v.natAbs≤9223372036854775807) ((Eq.refl v.natAbs)))))⟩<;>omega)
abbrev Oy:Ctr Tryz.prog:=FI.c W9
abbrev Yo:FI:=⟨145,[.rat],[(.n 1099511627776)],fun _=>[],fun b z=>(fun(x:Rat)=> .c (.one (.dt .mag (.n ((b0 b).nb+1)) (x.den)))) z⟩
theorem Yp:Yo.OK Tryz.prog:=j6 hmix 10 Tryz.func145 rfl rfl (by decide) [(150,.c RF)] (fun(x:Rat) b hx hp=>qp (wX (Bnds.h1 hx).rat.2) rfl) (fun(x:Rat) hx hp=>by
 have hx0:Bnd .rat (.n 1099511627776) x:=hx
 refine⟨.cond (.nil) (.h 3 2 (.mag x.den 1099511627777) (.nil)),kcast (by kernel_rfl) (Sp ((denL x.den).length=0) (fun h1=>((BJ x.den_nz (by omega)).symm:1=x.den)) (fun h2=>I (wh (by omega):denL x.den=limbs x.den) (I (wX hx0.2:qH x.den 1099511627777) ((Eq.refl x.den)))))⟩)
abbrev Yn:Ctr Tryz.prog:=FI.c Yp
abbrev Yr:FI:=⟨201,[(.nat .u64),(.nat .u64)],[(.n 18446744073709551615),(.n 18446744073709551615)],fun _=>[],fun b z=>(fun(n:Nat)(d:Nat)=> .c (.one (.dt (.nat .u64) (.n (max (b0 b).nb (b1 b).nb)) (Nat.gcd n d)))) z.1 z.2⟩
theorem Ys:Yr.OK Tryz.prog:=j6 hmix 12 Tryz.func201 rfl rfl (by decide) [] (fun(n:Nat)(d:Nat) b hx hp=>qp (Vc (Bnds.h2 hx).1.nat (Bnds.h2 hx).2.nat) rfl) (fun(n:Nat)(d:Nat) hx hp=>by
 have hx0:n≤18446744073709551615:=hx.1
 have hx1:d≤18446744073709551615:=hx.2
 refine⟨.loop [.s 0 (.nat .u64) (.n 18446744073709551615),.s 1 (.nat .u64) (.n 18446744073709551615)] (fun((u,v):Nat×Nat)=>Nat.gcd u v=Nat.gcd n d) (fun((u,v):Nat×Nat)=>v) (fun((u,v):Nat×Nat)=> .nil),kcast (by kernel_rfl) (I (rfl:Nat.gcd n d=Nat.gcd n d) (fun(u:Nat)(v:Nat)(hb1:HB [.s 0 (.nat .u64) (.n 18446744073709551615),.s 1 (.nat .u64) (.n 18446744073709551615)] (u,v))(hK:Nat.gcd u v=Nat.gcd n d)=>have hv4:=(show u≤18446744073709551615 from hb1.1);have hv5:=(show v≤18446744073709551615 from hb1.2);Sp (v≠0) (fun h2=>I (?_:0<v) (q0O ((Gp u v).trans hK:Nat.gcd v (u%v)=Nat.gcd n d) (q1N _ (by omega):u%v<v))) (fun h3=>(by rw[show v=0 by omega,Nat.gcd_zero_right]at hK;exact hK:u=Nat.gcd n d))))⟩<;>omega)
abbrev Yq:Ctr Tryz.prog:=FI.c Ys
abbrev Tu:FV:=⟨202,false,(.nat .u32),(.n 4294967295),1099511627776,[(.nat .u64)],[(.n 18446744073709551615)],fun l lo n cap z=>(fun(v:Nat)=>[2≤n,lo+2≤l.length,v≤18446744073709551615]) z,fun k b l lo n cap z=>(fun(v:Nat)=> .c (.one (.dt (.nat .i64) (.n 2) (nlw v)))) z,fun l lo n cap z=>(fun(v:Nat)=>jW l lo v) z⟩
theorem Tv:Tu.OK Tryz.prog:=mkSl hmix 17 Tryz.func202 rfl rfl (by decide) [] (fun _=>rfl) (fun _ _ _ _ _=>rfl) (fun _ _ _ _ _ _ _=>rfl) (fun _ _ _ _ _ _=>rfl) (fun(l:List Nat)(lo n cap:Nat)(v:Nat) k b hx hs hn(hm:n≤1099511627776) hp=>⟨qp (LV v).2 rfl,Tj (hp _ (q1j _ (q1j _ q1k))) hs⟩) (fun(l:List Nat)(lo n cap:Nat)(v:Nat) hs hx hn(hm:n≤1099511627776) hp=>by
 have hx0:v≤18446744073709551615:=hx
 have hp0:2≤n:=hp _ (q1k)
 have hp1:lo+2≤l.length:=hp _ (q1j _ (q1k))
 have hp2:v≤18446744073709551615:=hp _ (q1j _ (q1j _ (q1k)))
 refine⟨.nil,kcast (by kernel_rfl) (I (?_:0<n) (I (?_:lo+0<l.length) (Sp (v/2^32=0) (fun h1=>q0O (by rw[jW,if_pos (by assumption)]:l.set (lo+0) (v%4294967296)=jW l lo v) ((by rw[nlw,if_pos (by assumption)]:1=nlw v))) (fun h2=>I (?_:1<n) (I (by simp only[List.length_set];omega:lo+1<(l.set (lo+0) (v%4294967296)).length) (q0O (by rw[jW,if_neg (by assumption)]:(l.set (lo+0) (v%4294967296)).set (lo+1) (v/2^32)=jW l lo v) ((by rw[nlw,if_neg (by assumption)]:2=nlw v))))))))⟩<;>omega)
abbrev Tt:CtrS Tryz.prog:=FV.c Tv
abbrev Wm:FI:=⟨146,[.bool,(.nat .u64),(.nat .u64)],[.u,(.n 18446744073709551615),(.n 18446744073709551615)],fun z=>(fun(neg:Bool)(n:Nat)(d:Nat)=>[0<d]) z.1 z.2.1 z.2.2,fun b z=>(fun(neg:Bool)(n:Nat)(d:Nat)=> .c (.agg [.dt .rat (.n (max (Nat.log2 (b1 b).nb+1) (Nat.log2 (b2 b).nb+1))) (qn neg n d)])) z.1 z.2.1 z.2.2⟩
theorem Wn:Wm.OK Tryz.prog:=j6 hmix 50 Tryz.func146 rfl rfl (by decide) [(201,.c Yq),(202,.s Tt)] (fun(neg:Bool)(n:Nat)(d:Nat) b hx hp=>js (jk (qi (Nat.le_max_left _ _) (wZ (Bnds.h3 hx).2.1.nat)) (jx (qi (Nat.le_max_right _ _) (wZ (Bnds.h3 hx).2.2.nat))) (hp _ q1k))) (fun(neg:Bool)(n:Nat)(d:Nat) hx hp=>by
 have hx1:n≤18446744073709551615:=hx.2.1
 have hx2:d≤18446744073709551615:=hx.2.2
 have hp0:0<d:=hp _ (q1k)
 refine⟨.cond (.nil) ((fun(g:Nat)=>(fun(n1:Nat)=>(fun(d1:Nat)=> .h 5 0 (.mk (.arr (.nat .u32) (.n 4294967295))) ((fun(a:Nat)=> .cond ((fun(b:Nat)=> .pre 11 (.frz 24 false []) (.h 11 0 (.rat (qn neg n d) 64) (.nil))) (a+(nlw d1))) (.pre 11 (.frz 24 false []) (.h 11 0 (.rat (qn neg n d) 64) (.nil)))) (nlw n1))) (d/g)) (n/g)) (Nat.gcd n d)),kcast (by kernel_rfl) (q0O (fun(h1:n=0)=>(by rw[show n=0 by omega,wR]:0=qn neg n d)) (fun(h2: ¬(n=0))=>(fun(g:Nat)(hg:g=Nat.gcd n d)=>have hg0:=(show 0<g from hg▸Nat.gcd_pos_of_pos_right _ hp0);I (by omega:0<g) (I (by omega:0<g) ((fun(n1:Nat)(hn1:n1=n/g)=>(fun(d1:Nat)(hd1:d1=d/g)=>have hn0:=(show 0<n1 from by rw[hn1,hg];exact Nat.div_pos (Nat.gcd_le_left _ (by omega)) (hg▸hg0));have hd0:=(show 0<d1 from by rw[hd1,hg];exact Nat.div_pos (Nat.gcd_le_right _ (by omega)) (hg▸hg0));have hn9:=(show n1≤18446744073709551615 from by rw[hn1];exact q1H (q1z _ _) hx1);have hd9:=(show d1≤18446744073709551615 from by rw[hd1];exact q1H (q1z _ _) hx2);I (by omega:2≤4) (I (by simp:0+2≤(List.replicate 4 (0:Nat)).length) (I (by omega:n1≤18446744073709551615) ((fun(a:Nat)(ha:a=nlw n1)=>have ha1:=(show 1≤a∧a≤2 from by rw[ha];exact LV n1);have hL:=(show(jW (List.replicate 4 (0:Nat)) 0 n1).length=4 from Mf _ _ _);I (by omega:a≤4) (I (by omega:a=a) (q0O (fun(h3:1<d1)=>I (by omega:a≤4) (I (by omega:a<4) (I (by omega:2≤4-a) (I (by omega:a+2≤(jW (List.replicate 4 (0:Nat)) 0 n1).length) (I (by omega:d1≤18446744073709551615) ((fun(b:Nat)(hb:b=a+(nlw d1))=>have hb1:=LV d1;have hL2:=(show(jW (jW (List.replicate 4 (0:Nat)) 0 n1) a d1).length=4 from(Mf _ _ _).trans hL);I (by omega:a<b) (I (by omega:b≤4) (I (by omega:b=b) (I (by omega:a≤(jW (jW (List.replicate 4 (0:Nat)) 0 n1) a d1).length) (I (by omega:a+(b-a)≤(jW (jW (List.replicate 4 (0:Nat)) 0 n1) a d1).length) (I ((vI (by omega) hp0).symm:neg=decide ((qn neg n d).num<0)) (I (by rw[v8 hp0,←hg,←hn1];subst ha;first|exact Ms hn0 hn9|exact OF hn0 hn9:(jW (jW (List.replicate 4 (0:Nat)) 0 n1) a d1).take a=limbs ((qn neg n d).num.natAbs)) (I (by rw[(jy hp0).2,←hg,←hd1,denL,if_neg (by omega)];subst hb ha;exact Wl hd0 hd9:((jW (jW (List.replicate 4 (0:Nat)) 0 n1) a d1).drop a).take (b-a)=denL (qn neg n d).den) (I (by rw[v8 hp0,←hg,←hn1];exact q1I hn9 (by decide):qH (qn neg n d).num.natAbs 64) (I (by rw[(jy hp0).2,←hg,←hd1];exact q1H hd9 (by decide):le2 (qn neg n d).den 64) ((Eq.refl (qn neg n d))))))))))))) (a+(nlw d1)) rfl)))))) (fun(h4: ¬(1<d1))=>I (by omega:a≤(jW (List.replicate 4 (0:Nat)) 0 n1).length) (I ((vI (by omega) hp0).symm:neg=decide ((qn neg n d).num<0)) (I (by rw[v8 hp0,←hg,←hn1];subst ha;first|exact Ms hn0 hn9|exact OF hn0 hn9:(jW (List.replicate 4 (0:Nat)) 0 n1).take a=limbs ((qn neg n d).num.natAbs)) (I (by rw[(jy hp0).2,←hg,←hd1];omega:(qn neg n d).den=1) (I (by rw[v8 hp0,←hg,←hn1];exact q1I hn9 (by decide):qH (qn neg n d).num.natAbs 64) (I (by rw[(jy hp0).2,←hg,←hd1];exact q1H hd9 (by decide):le2 (qn neg n d).den 64) ((Eq.refl (qn neg n d)))))))))))) (nlw n1) rfl)))) (d/g) rfl) (n/g) rfl))) (Nat.gcd n d) rfl))⟩)
abbrev FN:Ctr Tryz.prog:=FI.c Wn
abbrev VR:FI:=⟨141,[.rat],[(.n 1099511627776)],fun _=>[],fun b z=>(fun(x:Rat)=> .tup [.one (.dt (.nat .u64) (.n 4294967295) (pn x)),.one (.dt (.nat .u64) (.n 4294967295) (pd x)),.one (.dt .bool .u (pb x))]) z⟩
theorem VS:VR.OK Tryz.prog:=j6 hmix 30 Tryz.func141 rfl rfl (by decide) [(199,.c OB)] (fun(x:Rat) b hx hp=>jb (qp (HX x) rfl) (jb (qp (HT x) rfl) (jb (qp trivial rfl) zk))) (fun(x:Rat) hx hp=>by
 refine⟨.nil,kcast (by kernel_rfl) (Sp (1<(limbs x.num.natAbs).length) (fun h1=>q0O ((FG (by first|exact .inl (by assumption)|exact .inr (by assumption))).1:0=pn x) (q0O ((FG (by first|exact .inl (by assumption)|exact .inr (by assumption))).2.1:0=pd x) ((FG (by first|exact .inl (by assumption)|exact .inr (by assumption))).2.2:false=pb x))) (fun h2=>Sp (1<(denL x.den).length) (fun h3=>q0O ((FG (by first|exact .inl (by assumption)|exact .inr (by assumption))).1:0=pn x) (q0O ((FG (by first|exact .inl (by assumption)|exact .inr (by assumption))).2.1:0=pd x) ((FG (by first|exact .inl (by assumption)|exact .inr (by assumption))).2.2:false=pb x))) (fun h4=>have hs:=p_sm (x:=x) (by unfold bigQ;omega);Sp ((denL x.den).length=1) (fun h5=>I (?_:0<(denL x.den).length) (I (?_:(limbs x.num.natAbs).length≤2) (q0O (hs.1:x.num.natAbs=pn x) (q0O (by have:=hs.2.1;have:= @Qv x.den (by omega);omega:(denL x.den).getD 0 0=pd x) (by rw[hs.2.2];have:= @Qv x.den (by omega);have:=x.den_nz;exact decide_eq_true (by omega):decide ((denL x.den).getD 0 0≠0)=pb x))))) (fun h6=>I (?_:(limbs x.num.natAbs).length≤2) (q0O (hs.1:x.num.natAbs=pn x) (q0O (by rw[←hs.2.1];exact(BJ x.den_nz (by omega)).symm:1=pd x) (by rw[hs.2.2]:true=pb x)))))))⟩<;>omega)
abbrev FH:Ctr Tryz.prog:=FI.c VS
abbrev Tn:FI:=⟨147,[.bool,.mag,.mag],[.u,(.n 64),(.n 64)],fun _=>[],fun b z=>(fun(neg:Bool)(n:Nat)(d:Nat)=> .c (.agg [.dt .rat (.n (max (b1 b).nb (b2 b).nb)) (qn neg n d)])) z.1 z.2.1 z.2.2⟩
theorem To:Tn.OK Tryz.prog:=j6 hmix 68 Tryz.func147 rfl rfl (by decide) [(146,.c FN),(179,.c H7),(199,.c OB)] (fun(neg:Bool)(n:Nat)(d:Nat) b hx hp=>js (GI (qi (Nat.le_max_left _ _) (Bnds.h3 hx).2.1.mag) (qi (Nat.le_max_right _ _) (Bnds.h3 hx).2.2.mag))) (fun(neg:Bool)(n:Nat)(d:Nat) hx hp=>by
 have hx1:qH n 64:=hx.2.1
 have hl1:(limbs n).length≤3:=qo (q1E hx1)
 have hx2:qH d 64:=hx.2.2
 have hl2:(limbs d).length≤3:=qo (q1E hx2)
 have hn2:=nl64 hx1
 have hd2:=nl64 hx2
 refine⟨.cond (.nil) (.cond (.nil) (.cond (.cond (.nil) (.dead)) (.dead))),kcast (by kernel_rfl) (q0O (fun(h1:bl n=0)=>(?_:0=qn neg n d)) (fun(h2: ¬(bl n=0))=>q0O (fun(h3:bl d=0)=>(?_:0=qn neg n d)) (fun(h4: ¬(bl d=0))=>have hn0:=(show 0<n from q1W (mt BE.2 (by omega)));have hd0:=(show 0<d from q1W (mt BE.2 (by omega)));q0O (fun(h5:(limbs n).length≤2)=>q0O (fun(h6:(limbs d).length≤2)=>I (?_:(limbs n).length≤2) (I (?_:(limbs d).length≤2) (I (?_:0<d) ((Eq.refl (qn neg n d)))))) (fun(h7: ¬((limbs d).length≤2))=>(?_:False))) (fun(h8: ¬((limbs n).length≤2))=>(?_:False)))))⟩<;>first|omega|(first|rw[BE.1 (show bl n=0 by omega),wR]|rw[BE.1 (show bl d=0 by omega),Mo]))
abbrev Mh:Ctr Tryz.prog:=FI.c To
abbrev ZP:FI:=⟨142,[(.sl (.nat .u32)),(.sl (.nat .u32))],[(.s 1099511627776 (.n 4294967295)),(.s 1099511627776 (.n 4294967295))],fun _=>[],fun b z=>(fun(l:List Nat)(m:List Nat)=> .c (.one (.dt .bool .u (decide (l=m))))) z.1 z.2⟩
theorem ZQ:ZP.OK Tryz.prog:=j6 hmix 26 Tryz.func142 rfl rfl (by decide) [] (fun(l:List Nat)(m:List Nat) b hx hp=>qp trivial rfl) (fun(l:List Nat)(m:List Nat) hx hp=>by
 have hl0:l.length≤1099511627776:=hx.1.1
 have hl1:m.length≤1099511627776:=hx.2.1
 refine⟨.cond (.nil) (.loop [.s 13 (.nat .i64) (.n 1099511627776)] (fun(i:Nat)=>i≤l.length∧l.take i=m.take i) (fun(i:Nat)=>l.length-i) (fun(i:Nat)=> .nil)),kcast (by kernel_rfl) (Sp (l.length≠m.length) (fun h1=>((decide_eq_false (by first|exact(Ir (by omega) hC.2 (by omega)).2 (by omega)|exact fun e=>absurd (congrArg List.length e) (by assumption))).symm:false=decide (l=m))) (fun h2=>I (⟨q23 _,rfl⟩:0≤l.length∧l.take 0=m.take 0) (fun(i:Nat)(hb3:HB [.s 13 (.nat .i64) (.n 1099511627776)] i)(hC:i≤l.length∧l.take i=m.take i)=>have hv8:=(show i≤1099511627776 from hb3);Sp (i<l.length) (fun h4=>I (?_:i<l.length) (I (?_:i<m.length) (Sp (l.getD i 0≠m.getD i 0) (fun h5=>((decide_eq_false (by first|exact(Ir (by omega) hC.2 (by omega)).2 (by omega)|exact fun e=>absurd (congrArg List.length e) (by assumption))).symm:false=decide (l=m))) (fun h6=>I (show(i+1)≤1099511627776 by omega:Bnd (.nat .i64) (.n 1099511627776) (i+1)) (q0O (⟨by omega,(Ir (by omega) hC.2 (by omega)).1 (by omega)⟩:(i+1)≤l.length∧l.take (i+1)=m.take (i+1)) (?_:l.length-(i+1)<l.length-i)))))) (fun h7=>((decide_eq_true (by have:=hC.2;rwa [q1t (by omega),q1t (by omega)]at this)).symm:true=decide (l=m))))))⟩<;>omega)
abbrev Ub:Ctr Tryz.prog:=FI.c ZQ
abbrev W7:FI:=⟨127,[.rat],[(.n 31)],fun _=>[],fun b z=>(fun(x:Rat)=> .c (.one (.dt (.int .i64) (.n 1) (jc x)))) z⟩
theorem Ox:W7.OK Tryz.prog:=j6 hmix 11 Tryz.func127 rfl rfl (by decide) [(179,.c H7)] (fun(x:Rat) b hx hp=>qp (Mr x) rfl) (fun(x:Rat) hx hp=>by
 refine⟨.nil,kcast (by kernel_rfl) (Sp (bl x.num.natAbs=0) (fun h1=>(by rw[jc,if_pos (BE.1 (by omega))]:0=jc x)) (fun h2=>Sp (x.num<0) (fun h3=>(by rw[jc,if_neg (fun e=>absurd (BE.2 e) (by omega)),if_pos (by assumption)]:(-1)=jc x)) (fun h4=>(by rw[jc,if_neg (fun e=>absurd (BE.2 e) (by omega)),if_neg (by assumption)]:1=jc x))))⟩)
abbrev Ow:Ctr Tryz.prog:=FI.c Ox
abbrev Yu:FI:=⟨93,[(.int .i64)],[(.n 9223372036854775807)],fun _=>[],fun b z=>(fun(v:Int)=> .c (.agg [.dt .rat (.n (Nat.log2 (b0 b).nb+1)) ((v:Rat))])) z⟩
theorem Yv:Yu.OK Tryz.prog:=j6 hmix 9 Tryz.func93 rfl rfl (by decide) [(147,.c Mh),(149,.c Oy),(150,.c RF)] (fun(v:Int) b hx hp=>js (NN (Bnds.h1 hx).int)) (fun(v:Int) hx hp=>by
 refine⟨.nil,kcast (by kernel_rfl) ((OE v:qn (decide (v<0)) v.natAbs 1=(v:Rat)))⟩)
abbrev YB:FI:=⟨95,[.rat,.rat],[(.n 31),(.n 31)],fun _=>[],fun b z=>(fun(x:Rat)(y:Rat)=> .c (.agg [.dt .rat (.n ((b0 b).nb+(b1 b).nb)) (x*y)])) z.1 z.2⟩
theorem RE:YB.OK Tryz.prog:=j6 hmix 64 Tryz.func95 rfl rfl (by decide) [(141,.c FH),(146,.c FN)] (fun(x:Rat)(y:Rat) b hx hp=>js (CG (Bnds.h2 hx).1 (Bnds.h2 hx).2)) (fun(x:Rat)(y:Rat) hx hp=>by
 have hx0:Bnd .rat (.n 31) x:=hx.1
 have hx1:Bnd .rat (.n 31) y:=hx.2
 refine⟨.cond (.nil) (.cond (.nil) (.cond (.cond (.nil) (.dead)) (.dead))),kcast (by kernel_rfl) (Sp ((limbs x.num.natAbs).length=0) (fun h1=>(?_:0=x*y)) (fun h2=>Sp ((limbs y.num.natAbs).length=0) (fun h3=>(?_:0=x*y)) (fun h4=>Sp (pb x=true) (fun h5=>Sp (pb y=true) (fun h6=>have hpx:=Cl (x:=x) (by assumption);have hpy:=Cl (x:=y) (by assumption);I (q1V hpx.2.2 hpy.2.2:0<(pd x)*(pd y)) ((?_:qn (decide ((decide (x.num<0))≠(decide (y.num<0)))) ((pn x)*(pn y)) ((pd x)*(pd y))=x*y))) (fun h7=>(absurd (Cr hx1) h7:False))) (fun h8=>(absurd (Cr hx0) h8:False)))))⟩<;>first|(first|rw[wQ (nl0.1 (show(limbs x.num.natAbs).length=0 by omega)),Rat.zero_mul]|rw[wQ (nl0.1 (show(limbs y.num.natAbs).length=0 by omega)),Rat.mul_zero])|(first|exact D9 x y|(rw[hpx.1,hpy.1,hpx.2.1,hpy.2.1];exact D9 x y)))
abbrev YA:Ctr Tryz.prog:=FI.c RE
def U6:Array Value→Sem Value:=fun args=>do
 let(x,y,c)←Extern.MathBitsCarry.three "Add64" args
 pure (Extern.MathBitsCarry.pair ((x+y+c)%Extern.MathBitsCarry.m64) ((x+y+c)/Extern.MathBitsCarry.m64))
theorem SN:Extern.findNext Tryz.f205=none:=by kernel_rfl
theorem V5:Extern.find Tryz.f205=some U6:=by kernel_rfl
theorem RI(a b:Nat)(w:World):(U6 #[.int .u64 (a:Int),.int .u64 (b:Int),.int .u64 0]).run Tryz.prog w= .ok (Extern.MathBitsCarry.pair ((a+b)%18446744073709551616) ((a+b)/18446744073709551616)) w:=by
 kernel_rfl
theorem Te{fx x y z:Operand}{ts:Array TypeId}{ty:TypeId}{a b:Nat}:
  OpOk Tryz.prog (.call {callee:= .value fx,args:= #[x,y,z],argTypes:=ts}) ty [(fx,vFun 205),(x,qc .u64 a),(y,qc .u64 b),(z,qc .u64 0)] []
   (.tup [.one (.val (.int .u64 (((a+b)%18446744073709551616:Nat):Int))),.one (.val (.int .u64 (((a+b)/18446744073709551616:Nat):Int)))]) []:=
 qj fun ac w H β hins _ _=>by
  have hf:=(hins (fx,vFun 205) (by simp)).1
  have hx:=(hins (x,qc .u64 a) (by simp)).1
  have hy:=(hins (y,qc .u64 b) (by simp)).1
  have hz:=(hins (z,qc .u64 0) (by simp)).1
  simp only at hf hx hy hz
  refine⟨Extern.MathBitsCarry.pair ((a+b)%18446744073709551616) ((a+b)/18446744073709551616),?_,fun _ _ _ _=>?_⟩
  ·exact⟨_,rfl,⟨⟨rfl,rfl⟩,⟨⟨rfl,rfl⟩,trivial⟩⟩⟩
  ·have hb: Tryz.f205.body.isNone=true:=by kernel_rfl
   have hn:(Tryz.f205.name== "runtime.NumGoroutine")=false:=by kernel_rfl
   simp only[execOp,resolve,hf,Deferred.ofValue,q2a,q2b,q29,invoke,callFunc,run_program,Tryz.func205,hb,hn,q0R,if_false,if_true,SN,V5]
   rw[show(#[]++Array.map ac.eval #[x,y,z]++ #[]:Array Value)= #[.int .u64 (a:Int),.int .u64 (b:Int),.int .u64 0] by simp[hx,hy,hz]]
   rw[show Sem.run Tryz.prog (mark (Mark.extern 205)) w= .ok () w from rfl]
   simp only[q29,RI]
abbrev Yk:FI:=⟨148,[.rat,.rat,.bool],[(.n 31),(.n 31),.u],fun _=>[],fun b z=>(fun(x:Rat)(y:Rat)(s:Bool)=> .c (.agg [.dt .rat (.n ((b0 b).nb+(b1 b).nb+1)) (x+yQ s y)])) z.1 z.2.1 z.2.2⟩
theorem Yl:Yk.OK Tryz.prog:=j6 hmix 152 Tryz.func148 rfl rfl (by decide) [(141,.c FH),(146,.c FN)] (fun(x:Rat)(y:Rat)(s:Bool) b hx hp=>js (Im (Bnds.h3 hx).1 (Bnds.h3 hx).2.1)) (fun(x:Rat)(y:Rat)(s:Bool) hx hp=>by
 have hx0:Bnd .rat (.n 31) x:=hx.1
 have hx1:Bnd .rat (.n 31) y:=hx.2.1
 refine⟨.cond (.cond (.h 6 2 (.any [.c (.one (.vl (.func (.func 205) #[] #[]))),.c (.one (.dt (.nat .u64) (.n 18446744065119617025) ((pn x)*(pd y)))),.c (.one (.dt (.nat .u64) (.n 18446744065119617025) ((pn y)*(pd x)))),.c (.one (.kn .u64 0))] (.tup [(.one (.dt (.nat .u64) (.n 18446744073709551615) ((((pn x)*(pd y))+((pn y)*(pd x)))%18446744073709551616))),(.one (.dt (.nat .u64) (.n 1) (cy ((pn x)*(pd y)) ((pn y)*(pd x)))))]) (jb (qp (q1F (q1N _ (by decide))) rfl) (jb (qp (ZO (q1S (HX x) (HT y)) (q1S (HX y) (HT x))) rfl) zk)) (Op.call {callee:= .value (.func 205),args:= #[.tmp 43,.tmp 44,.const (.int .u64 0)],argTypes:= #[168,168,168]}) (fun _=>Te (a:=(pn x)*(pd y)) (b:=(pn y)*(pd x)))) (.cond (.cond (.nil) (.dead)) (.cond (.cond (.h 10 4 (.i .sub) (.nil)) (.cond (.h 12 3 (.i .sub) (.nil)) (.dead))) (.dead)))) (.dead)) (.dead),kcast (by kernel_rfl) (Sp (pb x=true) (fun h1=>Sp (pb y=true) (fun h2=>have hpx:=Cl (x:=x) (by assumption);have hpy:=Cl (x:=y) (by assumption);have hx8:=HX x;have hx9:=HT x;have hy8:=HX y;have hy9:=HT y;have hm1:=q1S hx8 hy9;have hm2:=q1S hy8 hx9;have hpp:=q1V hpx.2.2 hpy.2.2;I (rfl:([.c (.one (.vl (.func (.func 205) #[] #[]))),.c (.one (.dt (.nat .u64) (.n 18446744065119617025) ((pn x)*(pd y)))),.c (.one (.dt (.nat .u64) (.n 18446744065119617025) ((pn y)*(pd x)))),.c (.one (.kn .u64 0))]:List WV)=[.c (.one (.vl (.func (.func 205) #[] #[]))),.c (.one (.dt (.nat .u64) (.n 18446744065119617025) ((pn x)*(pd y)))),.c (.one (.dt (.nat .u64) (.n 18446744065119617025) ((pn y)*(pd x)))),.c (.one (.kn .u64 0))]) (I (rfl:(Op.call {callee:= .value (.func 205),args:= #[.tmp 43,.tmp 44,.const (.int .u64 0)],argTypes:= #[168,168,168]}:Op)=Op.call {callee:= .value (.func 205),args:= #[.tmp 43,.tmp 44,.const (.int .u64 0)],argTypes:= #[168,168,168]}) (Sp ((decide (x.num<0))=s) (fun h3=>Sp (cy ((pn x)*(pd y)) ((pn y)*(pd x))=0) (fun h4=>I (hpp:0<(pd x)*(pd y)) ((?_:qn s ((((pn x)*(pd y))+((pn y)*(pd x)))%18446744073709551616) ((pd x)*(pd y))=x+yQ s y))) (fun h5=>(absurd (q0F hx0 hx1) h5:False))) (fun h6=>Sp ((decide (x.num<0))≠s) (fun h7=>Sp ((pn y)*(pd x)≤(pn x)*(pd y)) (fun h8=>I (by first|omega|contradiction:(pn y)*(pd x)≤(pn x)*(pd y)) (I (hpp:0<(pd x)*(pd y)) ((?_:qn (decide (x.num<0)) (((pn x)*(pd y)) -((pn y)*(pd x))) ((pd x)*(pd y))=x+yQ s y)))) (fun h9=>Sp ((decide (x.num<0))≠s) (fun h10=>I (by first|omega|contradiction:(pn x)*(pd y)≤(pn y)*(pd x)) (I (hpp:0<(pd x)*(pd y)) ((?_:qn s (((pn y)*(pd x)) -((pn x)*(pd y))) ((pd x)*(pd y))=x+yQ s y)))) (fun h11=>(by first|contradiction|simp_all:False)))) (fun h12=>(by first|contradiction|simp_all:False)))))) (fun h13=>(absurd (Cr hx1) h13:False))) (fun h14=>(absurd (Cr hx0) h14:False)))⟩<;>first|(first|contradiction|skip;rw[hpx.1,hpx.2.1,hpy.1,hpy.2.1]at*;first|(rw[X9 (by assumption)];exact Ek (by assumption))|exact Ei (by assumption) (by assumption)|exact Ej (by assumption) (by omega)))
abbrev Rv:Ctr Tryz.prog:=FI.c Yl
abbrev VX:FI:=⟨94,[.rat,.rat],[(.n 31),(.n 31)],fun _=>[],fun b z=>(fun(x:Rat)(y:Rat)=> .c (.agg [.dt .rat (.n ((b0 b).nb+(b1 b).nb+1)) (x+y)])) z.1 z.2⟩
theorem Om:VX.OK Tryz.prog:=j6 hmix 10 Tryz.func94 rfl rfl (by decide) [(148,.c Rv)] (fun(x:Rat)(y:Rat) b hx hp=>js (KJ (Bnds.h2 hx).1 (Bnds.h2 hx).2)) (fun(x:Rat)(y:Rat) hx hp=>by
 refine⟨.nil,kcast (by kernel_rfl) ((by rw[BC]:x+yQ (decide (y.num<0)) y=x+y))⟩)
abbrev VW:Ctr Tryz.prog:=FI.c Om
abbrev YG:FI:=⟨92,[.rat,.rat],[(.n 31),(.n 31)],fun _=>[],fun b z=>(fun(x:Rat)(y:Rat)=> .c (.agg [.dt .rat (.n ((b0 b).nb+(b1 b).nb+1)) (x-y)])) z.1 z.2⟩
theorem YH:YG.OK Tryz.prog:=j6 hmix 11 Tryz.func92 rfl rfl (by decide) [(148,.c Rv)] (fun(x:Rat)(y:Rat) b hx hp=>js (Mu (Bnds.h2 hx).1 (Bnds.h2 hx).2)) (fun(x:Rat)(y:Rat) hx hp=>by
 refine⟨.nil,kcast (by kernel_rfl) ((by rw[show decide (¬(y.num<0))=!decide (y.num<0)from decide_not,N0,Rat.sub_eq_add_neg]:x+yQ (decide (¬(y.num<0))) y=x-y))⟩)
abbrev Ry:FI:=⟨96,[.rat],[(.n 1099511627776)],fun _=>[],fun b z=>(fun(x:Rat)=> .c (.agg [.dt .rat (b0 b) x])) z⟩
theorem JS:Ry.OK Tryz.prog:=j6 hmix 12 Tryz.func96 rfl rfl (by decide) [(105,.c Gf)] (fun(x:Rat) b hx hp=>js (Bnds.h1 hx)) (fun(x:Rat) hx hp=>by
 have hx0:Bnd .rat (.n 1099511627776) x:=hx
 refine⟨.h 1 7 (.c BH) (.h 1 8 (.rat x 1099511627776) (.nil)),kcast (by kernel_rfl) (I (Eq.refl (decide (x.num<0))) (I (Eq.refl x.num.natAbs) (I (Eq.refl (denL x.den)) (I (hx0.1:qH x.num.natAbs 1099511627776) (I (hx0.2:le2 x.den 1099511627776) ((Eq.refl x)))))))⟩)
abbrev JR:Ctr Tryz.prog:=FI.c JS
abbrev VZ:FI:=⟨129,[.rat],[(.n 31)],fun _=>[],fun b z=>(fun(x:Rat)=> .c (.one (.dt (.int .i64) (.n ((b0 b).nb+((b0 b).nb+1))) (max ((bl x.num.natAbs:Nat):Int) ((bl x.den:Nat):Int))))) z⟩
theorem W0:VZ.OK Tryz.prog:=j6 hmix 10 Tryz.func129 rfl rfl (by decide) [(145,.c Yn),(179,.c H7)] (fun(x:Rat) b hx hp=>qp (JQ (Bnds.h1 hx)) rfl) (fun(x:Rat) hx hp=>by
 refine⟨.nil,kcast (by kernel_rfl) ((Eq.refl (max ((bl x.num.natAbs:Nat):Int) ((bl x.den:Nat):Int))))⟩)
abbrev YE:FI:=⟨91,[.rat,.rat],[(.n 31),(.n 31)],fun _=>[],fun b z=>(fun(x:Rat)(y:Rat)=> .tup [.agg [.dt .rat (.n ((b0 b).nb+(b1 b).nb)) (x/y)],.one (.dt (.int .i64) (.n 3) (quoC y))]) z.1 z.2⟩
theorem YF:YE.OK Tryz.prog:=j6 hmix 58 Tryz.func91 rfl rfl (by decide) [(127,.c Ow),(141,.c FH),(146,.c FN)] (fun(x:Rat)(y:Rat) b hx hp=>jb (js (IU (Bnds.h2 hx).1 (Bnds.h2 hx).2)) (jb (qp (Ru y) rfl) zk)) (fun(x:Rat)(y:Rat) hx hp=>by
 have hx0:Bnd .rat (.n 31) x:=hx.1
 have hx1:Bnd .rat (.n 31) y:=hx.2
 refine⟨.cond (.nil) (.cond (.cond (.nil) (.dead)) (.dead)),kcast (by kernel_rfl) (Sp (jc y=0) (fun h1=>q0O (Uw (Mq.1 (by assumption)):0=x/y) ((if_pos (Mq.1 (by assumption))).symm:3=quoC y)) (fun h2=>have hy0:=mt Mq.2 (by assumption);Sp (pb x=true) (fun h3=>Sp (pb y=true) (fun h4=>have hpx:=Cl (x:=x) (by assumption);have hpy:=Cl (x:=y) (by assumption);I (q1V hpx.2.2 (hpy.1▸q1W hy0):0<(pd x)*(pn y)) (q0O (?_:qn (decide ((decide (x.num<0))≠(decide (y.num<0)))) ((pn x)*(pd y)) ((pd x)*(pn y))=x/y) ((if_neg hy0).symm:0=quoC y))) (fun h5=>(absurd (Cr hx1) h5:False))) (fun h6=>(absurd (Cr hx0) h6:False))))⟩<;>first|(first|exact EX hy0|(rw[hpx.1,hpy.1,hpx.2.1,hpy.2.1];exact EX hy0)))
abbrev Ym:FI:=⟨90,[.rat,.rat],[(.n 31),(.n 31)],fun _=>[],fun b z=>(fun(x:Rat)(y:Rat)=> .c (.one (.dt (.int .i64) (.n 1) (jJ x y)))) z.1 z.2⟩
theorem Rx:Ym.OK Tryz.prog:=j6 hmix 80 Tryz.func90 rfl rfl (by decide) [(127,.c Ow),(141,.c FH),(142,.c Ub),(143,.c ZJ)] (fun(x:Rat)(y:Rat) b hx hp=>qp (L4 x y) rfl) (fun(x:Rat)(y:Rat) hx hp=>by
 have hx0:Bnd .rat (.n 31) x:=hx.1
 have hx1:Bnd .rat (.n 31) y:=hx.2
 refine⟨.cond (.nil) (.cond (.nil) (.cond (.cond (.nil) (.dead)) (.dead))),kcast (by kernel_rfl) (Sp (jc x≠jc y) (fun h1=>Sp (jc x<jc y) (fun h2=>(?_:(-1)=jJ x y)) (fun h3=>(?_:1=jJ x y))) (fun h4=>have hs:=(show jc x=jc y by omega);Sp (decide ((denL x.den)=(denL y.den))=true) (fun h5=>have hde:=(show x.den=y.den from Gi x.den_nz y.den_nz (by have h:=h5;simpa using h));Sp (x.num<0) (fun h6=>(?_: -(qR x.num.natAbs y.num.natAbs)=jJ x y)) (fun h7=>(?_:qR x.num.natAbs y.num.natAbs=jJ x y))) (fun h8=>Sp (pb x=true) (fun h9=>Sp (pb y=true) (fun h10=>have hpx:=Cl (x:=x) (by assumption);have hpy:=Cl (x:=y) (by assumption);Sp ((pn x)*(pd y)<(pn y)*(pd x)) (fun h11=>Sp (x.num<0) (fun h12=>(?_:1=jJ x y)) (fun h13=>(?_:(-1)=jJ x y))) (fun h14=>Sp ((pn y)*(pd x)<(pn x)*(pd y)) (fun h15=>Sp (x.num<0) (fun h16=>(?_:(-1)=jJ x y)) (fun h17=>(?_:1=jJ x y))) (fun h18=>Sp (x.num<0) (fun h19=>(?_:0=jJ x y)) (fun h20=>(?_:0=jJ x y))))) (fun h21=>(absurd (Cr hx1) h21:False))) (fun h22=>(absurd (Cr hx0) h22:False)))))⟩<;>first|(first|exact((Fg (by assumption)).1 (by assumption)).symm|exact((Fg (by assumption)).2 (by assumption)).symm|(rw[Nv hs (by assumption)];first|exact Dt hde|exact congrArg Neg.neg (Dt hde)|rfl|(rw[Qp hpx hpy];unfold qR;split<;>(try split)<;>first|rfl|omega))|(rw[Nx hs (by assumption)];first|exact Dt hde|exact congrArg Neg.neg (Dt hde)|rfl|(rw[Qp hpx hpy];unfold qR;split<;>(try split)<;>first|rfl|omega))))
abbrev Rw:Ctr Tryz.prog:=FI.c Rx
abbrev W6:FI:=⟨182,[.rat,.rat],[(.n 1099511627776),(.n 1099511627776)],fun _=>[],fun b z=>(fun(x:Rat)(y:Rat)=> .c (.one (.dt .bool .u (decide (x=y))))) z.1 z.2⟩
theorem Ov:W6.OK Tryz.prog:=j6 hmix 24 Tryz.func182 rfl rfl (by decide) [(142,.c Ub)] (fun(x:Rat)(y:Rat) b hx hp=>qp trivial rfl) (fun(x:Rat)(y:Rat) hx hp=>by
 refine⟨.nil,kcast (by kernel_rfl) (Sp ((decide (x.num<0))=(decide (y.num<0))) (fun h1=>Sp (decide ((limbs x.num.natAbs)=(limbs y.num.natAbs))=true) (fun h2=>(?_:decide ((denL x.den)=(denL y.den))=decide (x=y))) (fun h3=>(?_:false=decide (x=y)))) (fun h4=>(?_:false=decide (x=y))))⟩<;>first|(first|exact q0y (by assumption)|exact q0z (by assumption)|exact q0A (by assumption) (by assumption)))
abbrev W5:Ctr Tryz.prog:=FI.c Ov
abbrev Yy:FI:=⟨259,[.rat,.rat],[(.n 31),(.n 31)],fun _=>[],fun b z=>(fun(x:Rat)(y:Rat)=> .c (.agg [.dt .rat (.n (max (b0 b).nb (b1 b).nb)) (minQ x y)])) z.1 z.2⟩
theorem Yz:Yy.OK Tryz.prog:=j6 hmix 12 Tryz.func259 rfl rfl (by decide) [(90,.c Rw),(96,.c JR)] (fun(x:Rat)(y:Rat) b hx hp=>js (T7 (Bnds.h2 hx).1 (Bnds.h2 hx).2)) (fun(x:Rat)(y:Rat) hx hp=>by
 refine⟨.nil,kcast (by kernel_rfl) (Sp (jJ y x<0) (fun h1=>(?_:y=minQ x y)) (fun h2=>(?_:x=minQ x y)))⟩<;>first|(first|exact(if_pos (by assumption)).symm|exact(if_neg (by assumption)).symm))
abbrev Yw:FI:=⟨52,[.rat,.rat],[(.n 31),(.n 31)],fun _=>[],fun b z=>(fun(x:Rat)(y:Rat)=> .c (.agg [.dt .rat (.n (max (b0 b).nb (b1 b).nb)) (maxQ x y)])) z.1 z.2⟩
theorem Yx:Yw.OK Tryz.prog:=j6 hmix 12 Tryz.func52 rfl rfl (by decide) [(90,.c Rw),(96,.c JR)] (fun(x:Rat)(y:Rat) b hx hp=>js (T6 (Bnds.h2 hx).1 (Bnds.h2 hx).2)) (fun(x:Rat)(y:Rat) hx hp=>by
 refine⟨.nil,kcast (by kernel_rfl) (Sp (0<jJ y x) (fun h1=>(?_:y=maxQ x y)) (fun h2=>(?_:x=maxQ x y)))⟩<;>first|(first|exact(if_pos (by assumption)).symm|exact(if_neg (by assumption)).symm))
abbrev WL:FO:=⟨138,[(.sl (.nat .u32))],[(.s 1099511627776 (.n 4294967295))],fun z=>(fun(ls:List Nat)=>[∀u∈ls,u<4294967296]) z,fun k b z=>(fun(ls:List Nat)=> .c (.one (.gs k ((limbs (qb ls)).length) 1 ((b0 b).len)))) z,fun b z=>(fun(ls:List Nat)=> .gro (.nat .u32) (.n 4294967295) (limbs (qb ls))) z⟩
theorem WM:WL.OK Tryz.prog:=mkO hmix 23 22 Tryz.func138 rfl rfl (by decide) [] (fun _=>rfl) (fun _ _ _=>rfl) (fun _ _=>rfl) (fun _ _ _=>⟨rfl,rfl⟩) (fun(ls:List Nat) k b hx hp=>⟨qp (q1H (O8 (hp _ q1k)) (Bnds.h1 hx).sl.1) rfl,fun u hu=>q1F (jU _ u hu)⟩) (fun(ls:List Nat) hx hp=>by
 have hl0:ls.length≤1099511627776:=hx.1
 have hp0: ∀u∈ls,u<4294967296:=hp _ (q1k)
 refine bodyO.g (.loop [.s 3 (.nat .i64) (.n 1099511627776)] (fun(k:Nat)=>k≤ls.length∧qb (ls.take k)=qb ls) (fun(k:Nat)=>k) (fun(k:Nat)=> .cond (.h 2 5 (.i .sub) (.cond (.h 3 1 (.i .sub) (.nil)) (.h 4 0 (.mk (.gro (.nat .u32) (.n 4294967295))) (.nil)))) (.h 4 0 (.mk (.gro (.nat .u32) (.n 4294967295))) (.nil)))) (kcast (by kernel_rfl) (I (⟨q1G _,by rw[q1s]⟩:ls.length≤ls.length∧qb (ls.take ls.length)=qb ls) (fun(k:Nat)(hb1:HB [.s 3 (.nat .i64) (.n 1099511627776)] k)(hC:k≤ls.length∧qb (ls.take k)=qb ls)=>have hv6:=(show k≤1099511627776 from hb1);have hk:=hC.1;Sp (0<k) (fun h2=>I (?_:1≤k) (I (?_:k-1<ls.length) (Sp (ls.getD (k-1) 0=0) (fun h3=>I (?_:1≤k) (q0O (⟨by omega,K5 hC.1 (by omega) hC.2 (by omega)⟩:k-1≤ls.length∧qb (ls.take (k-1))=qb ls) (?_:k-1<k))) (fun h4=>I (?_:k≤ls.length) (I (rfl:0=([]:List Nat).length) (q0O ((q1p _).trans (Az hp0 hC.1 hC.2 (by omega)):([]:List Nat)++(ls.take k)=limbs (qb ls)) ((by rw[←Az hp0 hC.1 hC.2 (by omega)];simp:0+(ls.take k).length=(limbs (qb ls)).length)))))))) (fun h5=>I (?_:k≤ls.length) (I (rfl:0=([]:List Nat).length) (q0O ((q1p _).trans (Az hp0 hC.1 hC.2 (by omega)):([]:List Nat)++(ls.take k)=limbs (qb ls)) ((by rw[←Az hp0 hC.1 hC.2 (by omega)];simp:0+(ls.take k).length=(limbs (qb ls)).length))))))))<;>omega)
abbrev WK(k:Nat)(b:List Bd)(ls:List Nat):WV:= .c (.one (.gs k ((limbs (qb ls)).length) 1 ((b0 b).len)))
abbrev WJ(b:List Bd)(ls:List Nat):WB:= .gro (.nat .u32) (.n 4294967295) (limbs (qb ls))
theorem Si(d:Nat)(ls:List Nat)(hx:Bnds [(.sl (.nat .u32))] [(.s 1099511627776 (.n 4294967295))] ls)(hp: ∀c0∈([∀u∈ls,u<4294967296]:List Prop),c0):SigG Tryz.prog 138 (argsE [(.sl (.nat .u32))] ls) [] (WK d [(.s 1099511627776 (.n 4294967295))] ls).exp [(d,some (WJ [(.s 1099511627776 (.n 4294967295))] ls).exp)]:=WM.sig d ls hx hp
theorem Sh(b:List Bd)(ls:List Nat)(hx:Bnds [.sl (.nat .u32)] b ls)(hp: ∀p∈([∀u∈ls,u<4294967296]:List Prop),p):(WV.c (.one (.dt .mag (.n (32*(b0 b).len)) (qb ls)))).ok:=qp (DP (hp _ q1k) (Bnds.h1 hx).sl.1) rfl
theorem Ik(ls:List Nat)(hx:Bnds [.sl (.nat .u32)] [.s 1099511627776 (.n 4294967295)] ls)(hp: ∀p∈([∀u∈ls,u<4294967296]:List Prop),p)(b:Bd):Sig Tryz.prog 138 (argsE [.sl (.nat .u32)] ls) (WV.c (.one (.dt .mag b (qb ls)))).exp:=by
 have h:=frzO (Si 0 ls hx hp) (by decide) rfl .u
 rw[magE (qb ls) .u b]at h;exact h
def J8:Ctr Tryz.prog:=⟨138,[.sl (.nat .u32)],[.s 1099511627776 (.n 4294967295)],fun z=>[∀u∈z,u<4294967296],fun b z=> .c (.one (.dt .mag (.n (32*(b0 b).len)) (qb z))),fun z hx hp=>Ik z hx hp _,fun _ _=>rfl,fun b z hx hp=>Sh b z hx hp⟩
theorem Qc(x:Nat)(hx:Bnds [.mag] [.n 1099511627776] x)(b:Bd):Sig Tryz.prog 138 (argsE [.mag] x) (WV.c (.one (.dt .mag b x))).exp:=by
 have h:=Ik (limbs x) ⟨q1H (qo (q1E hx)) (by decide),(Bnd.limbs hx).2⟩ (by intro p hp;simp only[q1i,q1q,or_false]at hp;subst hp;exact jU x) b
 rw[qO,←Em]at h;exact h
def J9:Ctr Tryz.prog:=⟨138,[.mag],[.n 1099511627776],fun z=>[],fun b z=> .c (.one (.dt .mag (b0 b) z)),fun z hx hp=>Qc z hx _,fun _ _=>rfl,fun b z hx hp=>qp (Bnds.h1 hx) rfl⟩
abbrev q0L:FI:=⟨109,[(.nat .u64)],[(.n 18446744073709551615)],fun _=>[],fun b z=>(fun(x:Nat)=> .c (.one (.dt .mag (.n (Nat.log2 (b0 b).nb+1)) (x)))) z⟩
theorem q0M:q0L.OK Tryz.prog:=j6 hmix 10 Tryz.func109 rfl rfl (by decide) [] (fun(x:Nat) b hx hp=>qp (wZ (Bnds.h1 hx).nat) rfl) (fun(x:Nat) hx hp=>by
 have hx0:x≤18446744073709551615:=hx
 refine⟨.h 1 5 (.mk (.im (.nat .u32) (.n 4294967295))) (.h 1 6 (.c J8) (.nil)),kcast (by kernel_rfl) (I (by intro u hu;simp only[q1i,q1q,or_false]at hu;omega: ∀u∈[x%4294967296,x/2^32],u<4294967296) ((by simp only[qb];omega:qb [x%4294967296,x/2^32]=x)))⟩)
abbrev Qb:Ctr Tryz.prog:=FI.c q0M
abbrev U2:FI:=⟨110,[(.sl (.nat .u32))],[(.s 1099511627776 (.n 4294967295))],fun z=>(fun(ls:List Nat)=>[ls.length=0∨ls.getD (ls.length-1) 0≠0]) z,fun b z=> .c (.one (.vl (.bool true)))⟩
theorem U3:U2.OK Tryz.prog:=j6 hmix 15 Tryz.func110 rfl rfl (by decide) [] (fun(ls:List Nat) b hx hp=>UE rfl) (fun(ls:List Nat) hx hp=>by
 have hl0:ls.length≤1099511627776:=hx.1
 have hp0:ls.length=0∨ls.getD (ls.length-1) 0≠0:=hp _ (q1k)
 refine⟨.cond (.nil) (.h 1 7 (.i .sub) (.nil)),kcast (by kernel_rfl) (Sp (ls.length=0) (fun h1=>trivial) (fun h2=>I (?_:1≤ls.length) (I (?_:ls.length-1<ls.length) ((?_:ls.getD (ls.length-1) 0≠0)))))⟩<;>omega)
abbrev U1:Ctr Tryz.prog:=FI.c U3
abbrev Zb:FI:=⟨87,[.mag,.mag],[(.n 1099511627776),(.n 1099511627776)],fun _=>[],fun b z=>(fun(x:Nat)(y:Nat)=> .c (.one (.dt (.int .i64) (.n 1) (qR x y)))) z.1 z.2⟩
theorem Zc:Zb.OK Tryz.prog:=j6 hmix 41 Tryz.func87 rfl rfl (by decide) [] (fun(x:Nat)(y:Nat) b hx hp=>qp (Nu x y) rfl) (fun(x:Nat)(y:Nat) hx hp=>by
 have hx0:qH x 1099511627776:=hx.1
 have hl0:(limbs x).length≤34359738369:=qo (q1E hx0)
 have hx1:qH y 1099511627776:=hx.2
 have hl1:(limbs y).length≤34359738369:=qo (q1E hx1)
 refine⟨.cond (.nil) (.loop [.s 5 (.int .i64) (.n 68719476736)] (fun(z:Int)=>CmpI x y z) (fun(z:Int)=>(z+1).toNat) (fun(z:Int)=> .cond (.h 8 2 (.ix z.toNat) (.h 8 6 (.ix z.toNat) (.cond (.nil) (.h 10 2 (.ix z.toNat) (.h 10 6 (.ix z.toNat) (.nil)))))) (.nil))),kcast (by kernel_rfl) (Sp ((limbs x).length≠(limbs y).length) (fun h1=>Sp ((limbs x).length<(limbs y).length) (fun h2=>(?_:(-1)=qR x y)) (fun h3=>(?_:1=qR x y))) (fun h4=>I (CmpI.start (by omega):CmpI x y ((((limbs x).length:Nat):Int) -1)) (fun(z:Int)(hb5:HB [.s 5 (.int .i64) (.n 68719476736)] z)(hC:CmpI x y z)=>have hv12:=(show Int.natAbs z≤68719476736 from hb5);have hC0:=hC.h0;have hC1:=hC.h1;Sp (0≤z) (fun h6=>I (?_:z=((z.toNat:Nat):Int)) (I (?_:z.toNat<(limbs x).length) (I (?_:z=((z.toNat:Nat):Int)) (I (?_:z.toNat<(limbs y).length) (Sp ((limbs x).getD z.toNat 0<(limbs y).getD z.toNat 0) (fun h7=>(?_:(-1)=qR x y)) (fun h8=>I (?_:z=((z.toNat:Nat):Int)) (I (?_:z.toNat<(limbs x).length) (I (?_:z=((z.toNat:Nat):Int)) (I (?_:z.toNat<(limbs y).length) (Sp ((limbs y).getD z.toNat 0<(limbs x).getD z.toNat 0) (fun h9=>(?_:1=qR x y)) (fun h10=>I (show Int.natAbs (z-1)≤68719476736 by omega:Bnd (.int .i64) (.n 68719476736) (z-1)) (q0O ((hC.at (by omega) (by omega)).1 (by omega):CmpI x y (z-1)) (?_:((z-1)+1).toNat<(z+1).toNat))))))))))))) (fun h11=>((hC.fin (by omega)).symm:0=qR x y)))))⟩<;>first|omega|(first|exact(L5 (by omega)).symm|exact((hC.at (by omega) (by omega)).2.1 (by omega)).symm)|(first|exact(L6 (by omega)).symm|exact((hC.at (by omega) (by omega)).2.2 (by omega)).symm))
abbrev Fa:Ctr Tryz.prog:=FI.c Zc
abbrev TX:FI:=⟨140,[.mag,.mag],[(.n 1099511627776),(.n 1099511627776)],fun z=>(fun(x:Nat)(y:Nat)=>[y≤x]) z.1 z.2,fun b z=>(fun(x:Nat)(y:Nat)=> .c (.one (.dt .mag (b0 b) (x-y)))) z.1 z.2⟩
theorem TY:TX.OK Tryz.prog:=j6 hmix 50 Tryz.func140 rfl rfl (by decide) [] (fun(x:Nat)(y:Nat) b hx hp=>qp (Bnd.magLe (Bnds.h2 hx).1 (Nat.sub_le _ _)) rfl) (fun(x:Nat)(y:Nat) hx hp=>by
 have hx0:qH x 1099511627776:=hx.1
 have hl0:(limbs x).length≤34359738369:=qo (q1E hx0)
 have hx1:qH y 1099511627776:=hx.2
 have hl1:(limbs y).length≤34359738369:=qo (q1E hx1)
 have hp0:y≤x:=hp _ (q1k)
 have hlen:=zX hp0
 refine⟨.h 1 2 (.mk (.arr (.nat .u32) (.n 4294967295))) (.loop [.s 7 (.nat .i64) (.n 34359738369),.s 6 (.nat .u64) (.n 1),.a 12 (.nat .u32) (.n 4294967295)] (fun((i,c,out):Nat×Nat×List Nat)=>SubI x y i c out) (fun((i,c,out):Nat×Nat×List Nat)=>(limbs x).length-i) (fun((i,c,out):Nat×Nat×List Nat)=> .cond (.cond (.cond (.h 14 4 (.i .sub) (.nil)) (.h 14 4 (.i .sub) (.nil))) (.cond (.h 14 4 (.i .sub) (.nil)) (.h 14 4 (.i .sub) (.nil)))) (.pre 15 (.frz 12 true [5]) (.h 15 1 (.c J8) (.nil))))),kcast (by kernel_rfl) (I (?_:(limbs x).length=(limbs x).length) (I (SubI.start x y:SubI x y 0 0 (List.replicate ((limbs x).length) (0:Nat))) (fun(i:Nat)(c:Nat)(out:List Nat)(hb1:HB [.s 7 (.nat .i64) (.n 34359738369),.s 6 (.nat .u64) (.n 1),.a 12 (.nat .u32) (.n 4294967295)] (i,c,out))(hI:SubI x y i c out)=>have hv10:=(show i≤34359738369 from hb1.1);have hv11:=(show c≤1 from hb1.2.1);have hv12:=(show∀u∈out,u≤4294967295 from hb1.2.2);have hIl:=hI.hl;have hIi:=hI.hi;have hIc:=hI.hc;have hg1:=qr x i;have hg2:=qr y i;Sp (i<(limbs x).length) (fun h2=>Sp (i<(limbs y).length) (fun h3=>I (?_:i<(limbs y).length) (I (?_:i<(limbs x).length) (Sp ((limbs x).getD i 0<c+((limbs y).getD i 0)) (fun h4=>I (?_:c+((limbs y).getD i 0)≤((limbs x).getD i 0)+4294967296) (I (?_:i<(limbs x).length) (I (?_:i<out.length) (I (show(i+1)≤34359738369 by omega:Bnd (.nat .i64) (.n 34359738369) (i+1)) (q0O (?_:SubI x y (i+1) 1 (out.set i (((((limbs x).getD i 0)+4294967296) -(c+((limbs y).getD i 0)))%4294967296))) (?_:(limbs x).length-(i+1)<(limbs x).length-i)))))) (fun h5=>I (?_:c+((limbs y).getD i 0)≤(limbs x).getD i 0) (I (?_:i<(limbs x).length) (I (?_:i<out.length) (I (show(i+1)≤34359738369 by omega:Bnd (.nat .i64) (.n 34359738369) (i+1)) (q0O (?_:SubI x y (i+1) 0 (out.set i (((limbs x).getD i 0) -(c+((limbs y).getD i 0))))) (?_:(limbs x).length-(i+1)<(limbs x).length-i))))))))) (fun h6=>I (?_:i<(limbs x).length) (Sp ((limbs x).getD i 0<c) (fun h7=>I (?_:c≤((limbs x).getD i 0)+4294967296) (I (?_:i<(limbs x).length) (I (?_:i<out.length) (I (show(i+1)≤34359738369 by omega:Bnd (.nat .i64) (.n 34359738369) (i+1)) (q0O (?_:SubI x y (i+1) 1 (out.set i (((((limbs x).getD i 0)+4294967296) -c)%4294967296))) (?_:(limbs x).length-(i+1)<(limbs x).length-i)))))) (fun h8=>I (?_:c≤(limbs x).getD i 0) (I (?_:i<(limbs x).length) (I (?_:i<out.length) (I (show(i+1)≤34359738369 by omega:Bnd (.nat .i64) (.n 34359738369) (i+1)) (q0O (?_:SubI x y (i+1) 0 (out.set i (((limbs x).getD i 0) -c))) (?_:(limbs x).length-(i+1)<(limbs x).length-i))))))))) (fun h9=>I (?_:(limbs x).length=out.length) (have hF:=hI.fin' (by omega) hp0;I (hF.2: ∀u∈out,u<4294967296) ((hF.1:qb out=x-y)))))))⟩<;>first|omega|(first|exact hI.lt (by omega) (by first|rfl|rw[qU (l:=limbs y) (by omega),q1y]) (by assumption)|exact hI.ge (by omega) (by first|rfl|rw[qU (l:=limbs y) (by omega),q1y]) (by assumption)))
abbrev TW:Ctr Tryz.prog:=FI.c TY
abbrev Zl:FI:=⟨88,[.mag,.mag],[(.n 1099511627776),(.n 1099511627776)],fun _=>[],fun b z=>(fun(x:Nat)(y:Nat)=> .tup [.one (.dt .mag (b0 b) (x-y)),.one (.dt (.int .i64) (.n 7) (subC x y))]) z.1 z.2⟩
theorem Zm:Zl.OK Tryz.prog:=j6 hmix 13 Tryz.func88 rfl rfl (by decide) [(87,.c Fa),(140,.c TW)] (fun(x:Nat)(y:Nat) b hx hp=>jb (qp (Bnd.magLe (Bnds.h2 hx).1 (Nat.sub_le _ _)) rfl) (jb (qp (YU x y) rfl) zk)) (fun(x:Nat)(y:Nat) hx hp=>by
 have hx0:qH x 1099511627776:=hx.1
 have hl0:(limbs x).length≤34359738369:=qo (q1E hx0)
 have hx1:qH y 1099511627776:=hx.2
 have hl1:(limbs y).length≤34359738369:=qo (q1E hx1)
 refine⟨.nil,kcast (by kernel_rfl) (Sp (qR x y<0) (fun h1=>q0O (by have:=vT.1 (show qR x y<0 by assumption);omega:0=x-y) ((if_pos (vT.1 (by assumption))).symm:7=subC x y)) (fun h2=>have hp0:=(show y≤x from Nat.le_of_not_lt (mt vT.2 (by assumption)));I (?_:y≤x) (q0O (Eq.refl (x-y)) ((if_neg (by omega)).symm:0=subC x y))))⟩<;>omega)
abbrev Zk:Ctr Tryz.prog:=FI.c Zm
abbrev Zi:FI:=⟨83,[.mag,.mag],[(.n 1099511627776),(.n 1099511627776)],fun _=>[],fun b z=>(fun(x:Nat)(y:Nat)=> .c (.one (.dt .mag (.n ((b0 b).nb+(b1 b).nb)) (x*y)))) z.1 z.2⟩
theorem Zj:Zi.OK Tryz.prog:=j6 hmix 67 Tryz.func83 rfl rfl (by decide) [] (fun(x:Nat)(y:Nat) b hx hp=>qp (O2 (Bnds.h2 hx).1.mag (Bnds.h2 hx).2.mag) rfl) (fun(x:Nat)(y:Nat) hx hp=>by
 have hx0:qH x 1099511627776:=hx.1
 have hl0:(limbs x).length≤34359738369:=qo (q1E hx0)
 have hx1:qH y 1099511627776:=hx.2
 have hl1:(limbs y).length≤34359738369:=qo (q1E hx1)
 refine⟨.h 1 5 (.mk (.arr (.nat .u32) (.n 4294967295))) (.loop [.s 6 (.nat .i64) (.n 34359738369),.a 14 (.nat .u32) (.n 4294967295)] (fun((i,out):Nat×List Nat)=>MulI x y i out) (fun((i,out):Nat×List Nat)=>(limbs x).length-i) (fun((i,out):Nat×List Nat)=> .cond (.loop [.s 8 (.nat .i64) (.n 34359738369),.s 7 (.nat .u64) (.n 4294967295),.a 14 (.nat .u32) (.n 4294967295)] (fun((j,c,out2):Nat×Nat×List Nat)=>MulJ x y i ((limbs x).getD i 0) j c out out2) (fun((j,c,out2):Nat×Nat×List Nat)=>(limbs y).length-j) (fun((j,c,out2):Nat×Nat×List Nat)=> .nil)) (.pre 13 (.frz 14 true [5]) (.h 13 1 (.c J8) (.nil))))),kcast (by kernel_rfl) (I (?_:((limbs x).length)+((limbs y).length)=((limbs x).length)+((limbs y).length)) (I (MulI.start x y:MulI x y 0 (List.replicate (((limbs x).length)+((limbs y).length)) (0:Nat))) (fun(i:Nat)(out:List Nat)(hb1:HB [.s 6 (.nat .i64) (.n 34359738369),.a 14 (.nat .u32) (.n 4294967295)] (i,out))(hM:MulI x y i out)=>have hv10:=(show i≤34359738369 from hb1.1);have hv11:=(show∀u∈out,u≤4294967295 from hb1.2);have hMl:=hM.hl;have hMi:=hM.hi;Sp (i<(limbs x).length) (fun h2=>I (MulJ.start hM:MulJ x y i ((limbs x).getD i 0) 0 0 out out) (fun(j:Nat)(c:Nat)(out2:List Nat)(hb3:HB [.s 8 (.nat .i64) (.n 34359738369),.s 7 (.nat .u64) (.n 4294967295),.a 14 (.nat .u32) (.n 4294967295)] (j,c,out2))(hJ:MulJ x y i ((limbs x).getD i 0) j c out out2)=>have hv6:=(show j≤34359738369 from hb3.1);have hv7:=(show c≤4294967295 from hb3.2.1);have hv8:=(show∀u∈out2,u≤4294967295 from hb3.2.2);have hJl:=hJ.hl;have hJj:=hJ.hj;have hJc:=hJ.hc;Sp (j<(limbs y).length) (fun h4=>I (?_:i<(limbs x).length) (I (?_:j<(limbs y).length) (I (?_:i+j<((limbs x).length)+((limbs y).length)) (I (?_:i+j<out2.length) (I (?_:i+j<((limbs x).length)+((limbs y).length)) (I (?_:i+j<out2.length) (I (show(j+1)≤34359738369 by omega:Bnd (.nat .i64) (.n 34359738369) (j+1)) (q0O ((hJ.step (by omega) (by omega) (qr x i) rfl).1:MulJ x y i ((limbs x).getD i 0) (j+1) ((c+((((limbs x).getD i 0)*((limbs y).getD j 0))+(out2.getD (i+j) 0)))/2^32) out (out2.set (i+j) ((c+((((limbs x).getD i 0)*((limbs y).getD j 0))+(out2.getD (i+j) 0)))%4294967296))) (?_:(limbs y).length-(j+1)<(limbs y).length-j))))))))) (fun h5=>I (?_:i+((limbs y).length)<((limbs x).length)+((limbs y).length)) (I (?_:i+((limbs y).length)<out2.length) (I (show(i+1)≤34359738369 by omega:Bnd (.nat .i64) (.n 34359738369) (i+1)) (q0O (MulJ.fin' hM (by omega) hJ (by omega):MulI x y (i+1) (out2.set (i+((limbs y).length)) c)) (?_:(limbs x).length-(i+1)<(limbs x).length-i))))))) (fun h9=>I (?_:((limbs x).length)+((limbs y).length)=out.length) (have hF:=hM.fin' (by omega);I (hF.2: ∀u∈out,u<4294967296) ((hF.1:qb out=x*y)))))))⟩<;>omega)
abbrev Ij:Ctr Tryz.prog:=FI.c Zj
abbrev TZ:FI:=⟨171,[.mag],[(.n 1099511627776)],fun _=>[],fun b z=>(fun(x:Nat)=> .tup [.one (.dt (.nat .u64) (.n 18446744073709551615) (xw x)),.one (.dt .bool .u (xk x))]) z⟩
theorem U0:TZ.OK Tryz.prog:=j6 hmix 26 Tryz.func171 rfl rfl (by decide) [] (fun(x:Nat) b hx hp=>jb (qp (q0N x) rfl) (jb (qp trivial rfl) zk)) (fun(x:Nat) hx hp=>by
 have hx0:qH x 1099511627776:=hx
 have hl0:(limbs x).length≤34359738369:=qo (q1E hx0)
 refine⟨.cond (.nil) (.cond (.nil) (.cond (.h 7 9 (.i (.n (((limbs x).getD 0 0)+(((limbs x).getD 1 0)*2^32)) 18446744073709551615)) (.nil)) (.nil))),kcast (by kernel_rfl) (Sp ((limbs x).length=0) (fun h1=>q0O (by rw[(xw_y (by omega)).1];exact(nl0.1 (by omega)).symm:0=xw x) ((xw_y (by omega)).2.symm:true=xk x)) (fun h2=>Sp ((limbs x).length=1) (fun h3=>I (?_:0<(limbs x).length) (q0O (by rw[(xw_y (by omega)).1];exact Uf (by omega):(limbs x).getD 0 0=xw x) ((xw_y (by omega)).2.symm:true=xk x))) (fun h4=>Sp ((limbs x).length=2) (fun h5=>I (?_:0<(limbs x).length) (I (?_:1<(limbs x).length) (I (X3 _ 32 rfl (qr _ _) (by have:=qr x 0;have:=qr x 1;omega):zo .or .u64 (((limbs x).getD 0 0:Nat):Int) ((((limbs x).getD 1 0)*2^32:Nat):Int) ((((limbs x).getD 0 0)+(((limbs x).getD 1 0)*2^32):Nat):Int)) (I (by have:=qr x 0;have:=qr x 1;omega:((limbs x).getD 0 0)+(((limbs x).getD 1 0)*2^32)≤18446744073709551615) (q0O (by rw[(xw_y (by omega)).1];exact S4 (by omega):((limbs x).getD 0 0)+(((limbs x).getD 1 0)*2^32)=xw x) ((xw_y (by omega)).2.symm:true=xk x)))))) (fun h6=>q0O ((xw_n (by omega)).1.symm:0=xw x) ((xw_n (by omega)).2.symm:false=xk x)))))⟩<;>omega)
abbrev MZ:Ctr Tryz.prog:=FI.c U0
abbrev WF:FI:=⟨172,[.mag],[(.n 1099511627776)],fun _=>[],fun b z=>(fun(x:Nat)=> .c (.one (.dt (.nat .i64) (b0 b) (bl x)))) z⟩
theorem WG:WF.OK Tryz.prog:=j6 hmix 25 Tryz.func172 rfl rfl (by decide) [] (fun(x:Nat) b hx hp=>qp (Qj (Bnds.h1 hx)) rfl) (fun(x:Nat) hx hp=>by
 have hx0:qH x 1099511627776:=hx
 have hl0:(limbs x).length≤34359738369:=qo (q1E hx0)
 refine⟨.cond (.nil) (.h 3 2 (.i .sub) (.h 4 3 (.i .sub) (.loop [.s 3 (.nat .i64) (.n 1099511627872),.s 4 (.nat .u32) (.n 4294967295)] (fun((k,v):Nat×Nat)=>k+bl v=bl x) (fun((k,v):Nat×Nat)=>v) (fun((k,v):Nat×Nat)=> .nil)))),kcast (by kernel_rfl) (Sp ((limbs x).length=0) (fun h1=>(by have:=(nl0 (x:=x)).1 (by omega);subst this;rfl:0=bl x)) (fun h2=>have hpos:=(show 0<(limbs x).length by omega);have hBB:=Nr hpos;I (?_:1≤(limbs x).length) (I (?_:1≤(limbs x).length) (I (?_:((limbs x).length) -1<(limbs x).length) (I (hBB:(32*(((limbs x).length) -1))+bl ((limbs x).getD (((limbs x).length) -1) 0)=bl x) (fun(k:Nat)(v:Nat)(hb3:HB [.s 3 (.nat .i64) (.n 1099511627872),.s 4 (.nat .u32) (.n 4294967295)] (k,v))(hC:k+bl v=bl x)=>have hv6:=(show k≤1099511627872 from hb3.1);have hv7:=(show v≤4294967295 from hb3.2);have hbx:=(H8 hx0:bl x≤1099511627776);Sp (v≠0) (fun h4=>I (show(k+1)≤1099511627872 by omega:Bnd (.nat .i64) (.n 1099511627872) (k+1)) (q0O (by have:=UQ (v:=v) (by omega);omega:(k+1)+bl (v/2^1)=bl x) (?_:v/2^1<v))) (fun h5=>(by have e:v=0:=(by omega);rw[e,Nt]at hC;omega:k=bl x))))))))⟩<;>omega)
abbrev WE:Ctr Tryz.prog:=FI.c WG
abbrev Z9:FI:=⟨86,[.mag,.mag],[(.n 1099511627776),(.n 1099511627776)],fun _=>[],fun b z=>(fun(x:Nat)(y:Nat)=> .c (.one (.dt .mag (.n (max (b0 b).nb (b1 b).nb+1)) (x+y)))) z.1 z.2⟩
theorem Za:Z9.OK Tryz.prog:=j6 hmix 54 Tryz.func86 rfl rfl (by decide) [] (fun(x:Nat)(y:Nat) b hx hp=>qp (IJ (Bnds.h2 hx).1.mag (Bnds.h2 hx).2.mag) rfl) (fun(x:Nat)(y:Nat) hx hp=>by
 have hx0:qH x 1099511627776:=hx.1
 have hl0:(limbs x).length≤34359738369:=qo (q1E hx0)
 have hx1:qH y 1099511627776:=hx.2
 have hl1:(limbs y).length≤34359738369:=qo (q1E hx1)
 refine⟨.loop [.s 7 (.nat .i64) (.n 34359738371),.s 6 (.nat .u64) (.n 1),.g 5 90005 (.nat .u32) (.n 4294967295) 34359738371] (fun((i,c,out):Nat×Nat×List Nat)=>AddX x y i c out) (fun((i,c,out):Nat×Nat×List Nat)=>max (limbs x).length (limbs y).length+1-i) (fun((i,c,out):Nat×Nat×List Nat)=> .cond (.cond (.cond (.h 10 3 (.mk (.im (.nat .u32) (.n 4294967295))) (.nil)) (.h 10 3 (.mk (.im (.nat .u32) (.n 4294967295))) (.nil))) (.cond (.h 10 3 (.mk (.im (.nat .u32) (.n 4294967295))) (.nil)) (.h 10 3 (.mk (.im (.nat .u32) (.n 4294967295))) (.nil)))) (.cond (.cond (.cond (.h 10 3 (.mk (.im (.nat .u32) (.n 4294967295))) (.nil)) (.h 10 3 (.mk (.im (.nat .u32) (.n 4294967295))) (.nil))) (.cond (.h 10 3 (.mk (.im (.nat .u32) (.n 4294967295))) (.nil)) (.h 10 3 (.mk (.im (.nat .u32) (.n 4294967295))) (.nil)))) (.cond (.cond (.cond (.h 10 3 (.mk (.im (.nat .u32) (.n 4294967295))) (.nil)) (.h 10 3 (.mk (.im (.nat .u32) (.n 4294967295))) (.nil))) (.cond (.h 10 3 (.mk (.im (.nat .u32) (.n 4294967295))) (.nil)) (.h 10 3 (.mk (.im (.nat .u32) (.n 4294967295))) (.nil)))) (.pre 12 (.frz 90005 true [5]) (.h 12 1 (.mag (x+y) 1099511627777) (.nil)))))),kcast (by kernel_rfl) (I (rfl:0=([]:List Nat).length) (I (AddX.start x y:AddX x y 0 0 ([]:List Nat)) (fun(i:Nat)(c:Nat)(out:List Nat)(hb1:HB [.s 7 (.nat .i64) (.n 34359738371),.s 6 (.nat .u64) (.n 1),.g 5 90005 (.nat .u32) (.n 4294967295) 34359738371] (i,c,out))(hI:AddX x y i c out)=>have hv26:=(show i≤34359738371 from hb1.1);have hv27:=(show c≤1 from hb1.2.1);have hv28:=(show out.length≤34359738371 from hb1.2.2.1);have hIl:=hI.hl;have hIi:=hI.hi;have hIc:=hI.hc;have hg1:=qr x i;have hg2:=qr y i;Sp (i<(limbs x).length) (fun h2=>Sp (i<(limbs x).length) (fun h3=>I (?_:i<(limbs x).length) (Sp (i<(limbs y).length) (fun h4=>I (?_:i<(limbs y).length) (I (?_:out.length=out.length) (I (show(i+1)≤34359738371 by omega:Bnd (.nat .i64) (.n 34359738371) (i+1)) (I (by(try simp only[q1a,q1b,q1e])<;>omega:out.length+[((c+((limbs x).getD i 0))+((limbs y).getD i 0))%4294967296].length=(out++[((c+((limbs x).getD i 0))+((limbs y).getD i 0))%4294967296]).length) (I (by(try simp only[q1a,q1b,q1e])<;>omega:out.length+[((c+((limbs x).getD i 0))+((limbs y).getD i 0))%4294967296].length≤34359738371) (q0O (hI.step2 (by omega) (by first|rfl|(have hq1:= @qU (limbs x) i;have hq2:= @qU (limbs y) i;omega)) (by omega):AddX x y (i+1) (((c+((limbs x).getD i 0))+((limbs y).getD i 0))/2^32) (out++[((c+((limbs x).getD i 0))+((limbs y).getD i 0))%4294967296])) (by have:=hI.le (by omega);omega:max (limbs x).length (limbs y).length+1-(i+1)<max (limbs x).length (limbs y).length+1-i))))))) (fun h5=>I (?_:out.length=out.length) (I (show(i+1)≤34359738371 by omega:Bnd (.nat .i64) (.n 34359738371) (i+1)) (I (by(try simp only[q1a,q1b,q1e])<;>omega:out.length+[(c+((limbs x).getD i 0))%4294967296].length=(out++[(c+((limbs x).getD i 0))%4294967296]).length) (I (by(try simp only[q1a,q1b,q1e])<;>omega:out.length+[(c+((limbs x).getD i 0))%4294967296].length≤34359738371) (q0O (hI.step2 (by omega) (by first|rfl|(have hq1:= @qU (limbs x) i;have hq2:= @qU (limbs y) i;omega)) (by omega):AddX x y (i+1) ((c+((limbs x).getD i 0))/2^32) (out++[(c+((limbs x).getD i 0))%4294967296])) (by have:=hI.le (by omega);omega:max (limbs x).length (limbs y).length+1-(i+1)<max (limbs x).length (limbs y).length+1-i)))))))) (fun h6=>Sp (i<(limbs y).length) (fun h7=>I (?_:i<(limbs y).length) (I (?_:out.length=out.length) (I (show(i+1)≤34359738371 by omega:Bnd (.nat .i64) (.n 34359738371) (i+1)) (I (by(try simp only[q1a,q1b,q1e])<;>omega:out.length+[(c+((limbs y).getD i 0))%4294967296].length=(out++[(c+((limbs y).getD i 0))%4294967296]).length) (I (by(try simp only[q1a,q1b,q1e])<;>omega:out.length+[(c+((limbs y).getD i 0))%4294967296].length≤34359738371) (q0O (hI.step2 (by omega) (by first|rfl|(have hq1:= @qU (limbs x) i;have hq2:= @qU (limbs y) i;omega)) (by omega):AddX x y (i+1) ((c+((limbs y).getD i 0))/2^32) (out++[(c+((limbs y).getD i 0))%4294967296])) (by have:=hI.le (by omega);omega:max (limbs x).length (limbs y).length+1-(i+1)<max (limbs x).length (limbs y).length+1-i))))))) (fun h8=>I (?_:out.length=out.length) (I (show(i+1)≤34359738371 by omega:Bnd (.nat .i64) (.n 34359738371) (i+1)) (I (by(try simp only[q1a,q1b,q1e])<;>omega:out.length+[c].length=(out++[c]).length) (I (by(try simp only[q1a,q1b,q1e])<;>omega:out.length+[c].length≤34359738371) (q0O (hI.step2 (by omega) (by first|rfl|(have hq1:= @qU (limbs x) i;have hq2:= @qU (limbs y) i;omega)) (by omega):AddX x y (i+1) (c/2^32) (out++[c])) (by have:=hI.le (by omega);omega:max (limbs x).length (limbs y).length+1-(i+1)<max (limbs x).length (limbs y).length+1-i)))))))) (fun h9=>Sp (i<(limbs y).length) (fun h10=>Sp (i<(limbs x).length) (fun h11=>I (?_:i<(limbs x).length) (Sp (i<(limbs y).length) (fun h12=>I (?_:i<(limbs y).length) (I (?_:out.length=out.length) (I (show(i+1)≤34359738371 by omega:Bnd (.nat .i64) (.n 34359738371) (i+1)) (I (by(try simp only[q1a,q1b,q1e])<;>omega:out.length+[((c+((limbs x).getD i 0))+((limbs y).getD i 0))%4294967296].length=(out++[((c+((limbs x).getD i 0))+((limbs y).getD i 0))%4294967296]).length) (I (by(try simp only[q1a,q1b,q1e])<;>omega:out.length+[((c+((limbs x).getD i 0))+((limbs y).getD i 0))%4294967296].length≤34359738371) (q0O (hI.step2 (by omega) (by first|rfl|(have hq1:= @qU (limbs x) i;have hq2:= @qU (limbs y) i;omega)) (by omega):AddX x y (i+1) (((c+((limbs x).getD i 0))+((limbs y).getD i 0))/2^32) (out++[((c+((limbs x).getD i 0))+((limbs y).getD i 0))%4294967296])) (by have:=hI.le (by omega);omega:max (limbs x).length (limbs y).length+1-(i+1)<max (limbs x).length (limbs y).length+1-i))))))) (fun h13=>I (?_:out.length=out.length) (I (show(i+1)≤34359738371 by omega:Bnd (.nat .i64) (.n 34359738371) (i+1)) (I (by(try simp only[q1a,q1b,q1e])<;>omega:out.length+[(c+((limbs x).getD i 0))%4294967296].length=(out++[(c+((limbs x).getD i 0))%4294967296]).length) (I (by(try simp only[q1a,q1b,q1e])<;>omega:out.length+[(c+((limbs x).getD i 0))%4294967296].length≤34359738371) (q0O (hI.step2 (by omega) (by first|rfl|(have hq1:= @qU (limbs x) i;have hq2:= @qU (limbs y) i;omega)) (by omega):AddX x y (i+1) ((c+((limbs x).getD i 0))/2^32) (out++[(c+((limbs x).getD i 0))%4294967296])) (by have:=hI.le (by omega);omega:max (limbs x).length (limbs y).length+1-(i+1)<max (limbs x).length (limbs y).length+1-i)))))))) (fun h14=>Sp (i<(limbs y).length) (fun h15=>I (?_:i<(limbs y).length) (I (?_:out.length=out.length) (I (show(i+1)≤34359738371 by omega:Bnd (.nat .i64) (.n 34359738371) (i+1)) (I (by(try simp only[q1a,q1b,q1e])<;>omega:out.length+[(c+((limbs y).getD i 0))%4294967296].length=(out++[(c+((limbs y).getD i 0))%4294967296]).length) (I (by(try simp only[q1a,q1b,q1e])<;>omega:out.length+[(c+((limbs y).getD i 0))%4294967296].length≤34359738371) (q0O (hI.step2 (by omega) (by first|rfl|(have hq1:= @qU (limbs x) i;have hq2:= @qU (limbs y) i;omega)) (by omega):AddX x y (i+1) ((c+((limbs y).getD i 0))/2^32) (out++[(c+((limbs y).getD i 0))%4294967296])) (by have:=hI.le (by omega);omega:max (limbs x).length (limbs y).length+1-(i+1)<max (limbs x).length (limbs y).length+1-i))))))) (fun h16=>I (?_:out.length=out.length) (I (show(i+1)≤34359738371 by omega:Bnd (.nat .i64) (.n 34359738371) (i+1)) (I (by(try simp only[q1a,q1b,q1e])<;>omega:out.length+[c].length=(out++[c]).length) (I (by(try simp only[q1a,q1b,q1e])<;>omega:out.length+[c].length≤34359738371) (q0O (hI.step2 (by omega) (by first|rfl|(have hq1:= @qU (limbs x) i;have hq2:= @qU (limbs y) i;omega)) (by omega):AddX x y (i+1) (c/2^32) (out++[c])) (by have:=hI.le (by omega);omega:max (limbs x).length (limbs y).length+1-(i+1)<max (limbs x).length (limbs y).length+1-i)))))))) (fun h17=>Sp (c≠0) (fun h18=>Sp (i<(limbs x).length) (fun h19=>I (?_:i<(limbs x).length) (Sp (i<(limbs y).length) (fun h20=>I (?_:i<(limbs y).length) (I (?_:out.length=out.length) (I (show(i+1)≤34359738371 by omega:Bnd (.nat .i64) (.n 34359738371) (i+1)) (I (by(try simp only[q1a,q1b,q1e])<;>omega:out.length+[((c+((limbs x).getD i 0))+((limbs y).getD i 0))%4294967296].length=(out++[((c+((limbs x).getD i 0))+((limbs y).getD i 0))%4294967296]).length) (I (by(try simp only[q1a,q1b,q1e])<;>omega:out.length+[((c+((limbs x).getD i 0))+((limbs y).getD i 0))%4294967296].length≤34359738371) (q0O (hI.step2 (by omega) (by first|rfl|(have hq1:= @qU (limbs x) i;have hq2:= @qU (limbs y) i;omega)) (by omega):AddX x y (i+1) (((c+((limbs x).getD i 0))+((limbs y).getD i 0))/2^32) (out++[((c+((limbs x).getD i 0))+((limbs y).getD i 0))%4294967296])) (by have:=hI.le (by omega);omega:max (limbs x).length (limbs y).length+1-(i+1)<max (limbs x).length (limbs y).length+1-i))))))) (fun h21=>I (?_:out.length=out.length) (I (show(i+1)≤34359738371 by omega:Bnd (.nat .i64) (.n 34359738371) (i+1)) (I (by(try simp only[q1a,q1b,q1e])<;>omega:out.length+[(c+((limbs x).getD i 0))%4294967296].length=(out++[(c+((limbs x).getD i 0))%4294967296]).length) (I (by(try simp only[q1a,q1b,q1e])<;>omega:out.length+[(c+((limbs x).getD i 0))%4294967296].length≤34359738371) (q0O (hI.step2 (by omega) (by first|rfl|(have hq1:= @qU (limbs x) i;have hq2:= @qU (limbs y) i;omega)) (by omega):AddX x y (i+1) ((c+((limbs x).getD i 0))/2^32) (out++[(c+((limbs x).getD i 0))%4294967296])) (by have:=hI.le (by omega);omega:max (limbs x).length (limbs y).length+1-(i+1)<max (limbs x).length (limbs y).length+1-i)))))))) (fun h22=>Sp (i<(limbs y).length) (fun h23=>I (?_:i<(limbs y).length) (I (?_:out.length=out.length) (I (show(i+1)≤34359738371 by omega:Bnd (.nat .i64) (.n 34359738371) (i+1)) (I (by(try simp only[q1a,q1b,q1e])<;>omega:out.length+[(c+((limbs y).getD i 0))%4294967296].length=(out++[(c+((limbs y).getD i 0))%4294967296]).length) (I (by(try simp only[q1a,q1b,q1e])<;>omega:out.length+[(c+((limbs y).getD i 0))%4294967296].length≤34359738371) (q0O (hI.step2 (by omega) (by first|rfl|(have hq1:= @qU (limbs x) i;have hq2:= @qU (limbs y) i;omega)) (by omega):AddX x y (i+1) ((c+((limbs y).getD i 0))/2^32) (out++[(c+((limbs y).getD i 0))%4294967296])) (by have:=hI.le (by omega);omega:max (limbs x).length (limbs y).length+1-(i+1)<max (limbs x).length (limbs y).length+1-i))))))) (fun h24=>I (?_:out.length=out.length) (I (show(i+1)≤34359738371 by omega:Bnd (.nat .i64) (.n 34359738371) (i+1)) (I (by(try simp only[q1a,q1b,q1e])<;>omega:out.length+[c].length=(out++[c]).length) (I (by(try simp only[q1a,q1b,q1e])<;>omega:out.length+[c].length≤34359738371) (q0O (hI.step2 (by omega) (by first|rfl|(have hq1:= @qU (limbs x) i;have hq2:= @qU (limbs y) i;omega)) (by omega):AddX x y (i+1) (c/2^32) (out++[c])) (by have:=hI.le (by omega);omega:max (limbs x).length (limbs y).length+1-(i+1)<max (limbs x).length (limbs y).length+1-i)))))))) (fun h25=>I (?_:out.length=out.length) (I (hI.fin (by omega) (by omega) (by omega):out=limbs (x+y)) (I (qi (by decide) (IJ hx0 hx1):qH (x+y) 1099511627777) ((Eq.refl (x+y)))))))))))⟩<;>omega)
abbrev Z8:Ctr Tryz.prog:=FI.c Za
abbrev Ze:FI:=⟨139,[.mag,.mag],[(.n 64),(.n 64)],fun z=>(fun(x:Nat)(y:Nat)=>[0<y]) z.1 z.2,fun b z=>(fun(x:Nat)(y:Nat)=> .tup [.one (.dt .mag (b0 b) (x/y)),.one (.dt .mag (b1 b) (x%y)),.one (.kn .i64 0)]) z.1 z.2⟩
theorem Zf:Ze.OK Tryz.prog:=j6 hmix 163 Tryz.func139 rfl rfl (by decide) [(87,.c Fa),(109,.c Qb),(138,.c J9),(171,.c MZ)] (fun(x:Nat)(y:Nat) b hx hp=>jb (qp ((Bnds.h2 hx).1.magLe (q1z _ _)) rfl) (jb (qp ((Bnds.h2 hx).2.magLe (q1E (q1N _ (hp _ (q1k))))) rfl) (jb ZX zk))) (fun(x:Nat)(y:Nat) hx hp=>by
 have hx0:qH x 64:=hx.1
 have hl0:(limbs x).length≤3:=qo (q1E hx0)
 have hx1:qH y 64:=hx.2
 have hl1:(limbs y).length≤3:=qo (q1E hx1)
 have hp0:0<y:=hp _ (q1k)
 have hyp:=mt (nl0 (x:=y)).1 (show¬y=0 by omega)
 refine⟨.cond (.dead) (.cond (.nil) (.cond (.nil) (.dead))),kcast (by kernel_rfl) (Sp ((limbs y).length=0) (fun h1=>(absurd (nl0.1 h1) (by omega):False)) (fun h2=>Sp (qR x y<0) (fun h3=>q0O ((Nat.div_eq_of_lt (vT.1 (by omega))).symm:0=x/y) ((q1M (vT.1 (by omega))).symm:x=x%y)) (fun h4=>have hyx:=(show y≤x from Nat.le_of_not_lt (mt vT.2 (by assumption)));have hly:=zX hyx;Sp (xk x=true) (fun h5=>have hlx:=nl64 hx0;have hxx:=(xw_y hlx).1;have hxy:=(xw_y (x:=y) (nl64 hx1)).1;I (?_:0<xw y) (I (?_:0<xw y) (q0O (by rw[(xw_y (x:=x) (nl64 hx0)).1,(xw_y (x:=y) (nl64 hx1)).1]:(xw x)/(xw y)=x/y) (by rw[(xw_y (x:=x) (nl64 hx0)).1,(xw_y (x:=y) (nl64 hx1)).1]:(xw x)%(xw y)=x%y)))) (fun h6=>(absurd (xw_y (nl64 hx0)).2 h6:False)))))⟩<;>omega)
abbrev Zd:Ctr Tryz.prog:=FI.c Zf
abbrev Zg:FI:=⟨111,[.mag,.mag],[(.n 64),(.n 64)],fun _=>[],fun b z=>(fun(x:Nat)(y:Nat)=> .c (.one (.dt .mag (.n (max (b0 b).nb (b1 b).nb)) (Nat.gcd x y)))) z.1 z.2⟩
theorem Zh:Zg.OK Tryz.prog:=j6 hmix 51 Tryz.func111 rfl rfl (by decide) [(109,.c Qb),(138,.c J9),(171,.c MZ)] (fun(x:Nat)(y:Nat) b hx hp=>qp (O1 (Bnds.h2 hx).1.mag (Bnds.h2 hx).2.mag) rfl) (fun(x:Nat)(y:Nat) hx hp=>by
 have hx0:qH x 64:=hx.1
 have hl0:(limbs x).length≤3:=qo (q1E hx0)
 have hx1:qH y 64:=hx.2
 have hl1:(limbs y).length≤3:=qo (q1E hx1)
 refine⟨.loop [.s 0 .mag (.n 64),.s 1 .mag (.n 64)] (fun((a,b):Nat×Nat)=>a=x∧b=y) (fun((a,b):Nat×Nat)=>0) (fun((a,b):Nat×Nat)=> .cond (.cond (.cond (.loop [.s 5 (.nat .u64) (.n 18446744073709551615),.s 7 (.nat .u64) (.n 18446744073709551615)] (fun((u,v):Nat×Nat)=>Nat.gcd u v=Nat.gcd x y) (fun((u,v):Nat×Nat)=>v) (fun((u,v):Nat×Nat)=> .nil)) (.dead)) (.dead)) (.nil)),kcast (by kernel_rfl) (I (⟨rfl,rfl⟩:x=x∧y=y) (fun(a:Nat)(b:Nat)(hb1:HB [.s 0 .mag (.n 64),.s 1 .mag (.n 64)] (a,b))(hC:a=x∧b=y)=>have ha2:=(nl64 (by rw[hC.1];exact hx0):(limbs a).length≤2);have hb2:=(nl64 (by rw[hC.2];exact hx1):(limbs b).length≤2);Sp (0<(limbs b).length) (fun h2=>Sp (xk a=true) (fun h3=>Sp (xk b=true) (fun h4=>I (by rw[(xw_y ha2).1,(xw_y hb2).1,hC.1,hC.2]:Nat.gcd (xw a) (xw b)=Nat.gcd x y) (fun(u:Nat)(v:Nat)(hb5:HB [.s 5 (.nat .u64) (.n 18446744073709551615),.s 7 (.nat .u64) (.n 18446744073709551615)] (u,v))(hK:Nat.gcd u v=Nat.gcd x y)=>have hv8:=(show u≤18446744073709551615 from hb5.1);have hv9:=(show v≤18446744073709551615 from hb5.2);Sp (v≠0) (fun h6=>I (?_:0<v) (q0O ((Gp u v).trans hK:Nat.gcd v (u%v)=Nat.gcd x y) (q1N _ (by omega):u%v<v))) (fun h7=>(by rw[show v=0 by omega,Nat.gcd_zero_right]at hK;exact hK:u=Nat.gcd x y)))) (fun h10=>(absurd (xw_y hb2).2 h10:False))) (fun h11=>(absurd (xw_y ha2).2 h11:False))) (fun h12=>(by have e:=nl0.1 (show(limbs b).length=0 by omega);rw[←hC.1,←hC.2,e,Nat.gcd_zero_right]:a=Nat.gcd x y))))⟩<;>omega)
abbrev Sg:Ctr Tryz.prog:=FI.c Zh
abbrev WY:FI:=⟨16,[.rat],[(.n 31)],fun _=>[],fun b z=>(fun(x:Rat)=> .c (.one (.dt (.int .i64) (.n 1) (jc x)))) z⟩
theorem OT:WY.OK Tryz.prog:=j6 hmix 9 Tryz.func16 rfl rfl (by decide) [] (fun(x:Rat) b hx hp=>qp (Mr x) rfl) (fun(x:Rat) hx hp=>by
 refine⟨.nil,kcast (by kernel_rfl) (Sp ((limbs x.num.natAbs).length=0) (fun h1=>(by rw[jc,if_pos (nl0.1 (by assumption))]:0=jc x)) (fun h2=>Sp (x.num<0) (fun h3=>(by rw[jc,if_neg (mt nl0.2 (by assumption)),if_pos (by assumption)]:(-1)=jc x)) (fun h4=>(by rw[jc,if_neg (mt nl0.2 (by assumption)),if_neg (by assumption)]:1=jc x))))⟩)
abbrev WX:Ctr Tryz.prog:=FI.c OT
abbrev Zr:FI:=⟨84,[.rat],[(.n 1099511627776)],fun _=>[],fun b z=>(fun(x:Rat)=> .c (.one (.dt .mag (.n ((b0 b).nb+1)) (x.den)))) z⟩
theorem Zs:Zr.OK Tryz.prog:=j6 hmix 10 Tryz.func84 rfl rfl (by decide) [] (fun(x:Rat) b hx hp=>qp (wX (Bnds.h1 hx).rat.2) rfl) (fun(x:Rat) hx hp=>by
 have hx0:Bnd .rat (.n 1099511627776) x:=hx
 refine⟨.cond (.h 2 0 (.mk (.im (.nat .u32) (.n 4294967295))) (.h 2 1 (.mag 1 1) (.nil))) (.h 3 1 (.mag x.den 1099511627777) (.nil)),kcast (by kernel_rfl) (Sp ((denL x.den).length=0) (fun h1=>I (B1.symm:[1]=limbs 1) (I (IK rfl:qH 1 1) (((BJ x.den_nz (by omega)).symm:1=x.den)))) (fun h2=>I (wh (by omega):denL x.den=limbs x.den) (I (wX hx0.2:qH x.den 1099511627777) ((Eq.refl x.den)))))⟩)
abbrev Di:Ctr Tryz.prog:=FI.c Zs
abbrev WZ:FI:=⟨58,[(.int .i64)],[(.n 4611686018427387904)],fun _=>[],fun b z=>(fun(v:Int)=> .tup [(.one (.dt .mag (.n (Nat.log2 (b0 b).nb+1)) (v.natAbs))),.one (.dt .bool .u (decide (v<0)))]) z⟩
theorem X0:WZ.OK Tryz.prog:=j6 hmix 15 Tryz.func58 rfl rfl (by decide) [(109,.c Qb)] (fun(v:Int) b hx hp=>jb (qp (wZ (Bnds.h1 hx).int) rfl) (jb (qp trivial rfl) zk)) (fun(v:Int) hx hp=>by
 have hx0:Int.natAbs v≤4611686018427387904:=hx
 refine⟨.cond (.h 2 3 (.i (.n (v.natAbs-1) 4611686018427387904)) (.nil)) (.h 3 1 (.i (.n v.natAbs 4611686018427387904)) (.nil)),kcast (by kernel_rfl) (Sp (v<0) (fun h1=>I (by rw[show-(v+1)=((v.natAbs-1:Nat):Int) by omega];exact Bb (by omega):IntKind.wrap .u64 (-(v+1))=((v.natAbs-1:Nat):Int)) (I (?_:v.natAbs-1≤4611686018427387904) (q0O (?_:(v.natAbs-1)+1=v.natAbs) ((decide_eq_true (by assumption)).symm:true=decide (v<0))))) (fun h2=>I (by rw[show v=((v.natAbs:Nat):Int) by omega];exact Bb (by omega):IntKind.wrap .u64 v=((v.natAbs:Nat):Int)) (I (?_:v.natAbs≤4611686018427387904) (q0O (Eq.refl v.natAbs) ((decide_eq_false (by assumption)).symm:false=decide (v<0))))))⟩<;>omega)
abbrev OU:Ctr Tryz.prog:=FI.c X0
abbrev Sn:FI:=⟨85,[.bool,.mag,.mag],[.u,(.n 64),(.n 64)],fun z=>(fun(neg:Bool)(n:Nat)(d:Nat)=>[0<d]) z.1 z.2.1 z.2.2,fun b z=>(fun(neg:Bool)(n:Nat)(d:Nat)=> .c (.agg [.dt .rat (.n (max (b1 b).nb (b2 b).nb)) (qn neg n d)])) z.1 z.2.1 z.2.2⟩
theorem So:Sn.OK Tryz.prog:=j6 hmix 55 Tryz.func85 rfl rfl (by decide) [(111,.c Sg),(138,.c J9),(139,.c Zd)] (fun(neg:Bool)(n:Nat)(d:Nat) b hx hp=>js (GI (qi (Nat.le_max_left _ _) (Bnds.h3 hx).2.1.mag) (qi (Nat.le_max_right _ _) (Bnds.h3 hx).2.2.mag))) (fun(neg:Bool)(n:Nat)(d:Nat) hx hp=>by
 have hx1:qH n 64:=hx.2.1
 have hl1:(limbs n).length≤3:=qo (q1E hx1)
 have hx2:qH d 64:=hx.2.2
 have hl2:(limbs d).length≤3:=qo (q1E hx2)
 have hp0:0<d:=hp _ (q1k)
 refine⟨.cond (.nil) ((fun(g:Nat)=> .cond (.cond (.cond (.h 10 3 (.rat (qn neg n d) 64) (.nil)) (.h 10 3 (.rat (qn neg n d) 64) (.nil))) (.h 10 3 (.rat (qn neg n d) 64) (.nil))) (.cond (.cond (.cond (.h 10 3 (.rat (qn neg n d) 64) (.nil)) (.h 10 3 (.rat (qn neg n d) 64) (.nil))) (.h 10 3 (.rat (qn neg n d) 64) (.nil))) (.cond (.cond (.h 10 3 (.rat (qn neg n d) 64) (.nil)) (.h 10 3 (.rat (qn neg n d) 64) (.nil))) (.h 10 3 (.rat (qn neg n d) 64) (.nil))))) (Nat.gcd n d)),kcast (by kernel_rfl) (q0O (fun(h1:(limbs n).length=0)=>(by rw[nl0.1 (show(limbs n).length=0 by assumption),wR]:0=qn neg n d)) (fun(h2: ¬((limbs n).length=0))=>have hn0:=(show 0<n from q1W (mt nl0.2 (by omega)));have hd0:=hp0;(fun(g:Nat)(hg:g=Nat.gcd n d)=>have hg0:=(show 0<g from hg▸Nat.gcd_pos_of_pos_right _ hd0);have hgl:=(q1W (mt nl0.1 (show¬g=0 by omega)):0<(limbs g).length);q0O (fun(h3:(limbs g).length≠1)=>I (by omega:0<g) (I (by omega:0<g) (q0O (fun(h4:(limbs (d/g)).length=1)=>I (by omega:0<(limbs (d/g)).length) (q0O (fun(h5:(limbs (d/g)).getD 0 0=1)=>I ((vI hn0 hd0).symm:neg=decide ((qn neg n d).num<0)) (I (by rw[v8 hd0,←hg]<;>first|rfl|(rw[hg1,q1A]<;>rfl):n/g=(qn neg n d).num.natAbs) (I (by rw[(jy hd0).2,←hg];first|exact B3 (by omega) (by omega)|(rw[hg1,q1A];exact B3 (by omega) (by omega)):(qn neg n d).den=1) (I ((jk (p:=64) (qi (by decide) hx1) (jx (qi (by decide) hx2)) hd0).1:qH (qn neg n d).num.natAbs 64) (I ((jk (p:=64) (qi (by decide) hx1) (jx (qi (by decide) hx2)) hd0).2:le2 (qn neg n d).den 64) ((Eq.refl (qn neg n d)))))))) (fun(h6: ¬((limbs (d/g)).getD 0 0=1))=>I ((vI hn0 hd0).symm:neg=decide ((qn neg n d).num<0)) (I (by rw[v8 hd0,←hg]<;>first|rfl|(rw[hg1,q1A]<;>rfl):n/g=(qn neg n d).num.natAbs) (I (BA (by rw[(jy hd0).2,←hg]<;>first|rfl|(rw[hg1,q1A]<;>rfl)) (by omega):limbs (d/g)=denL (qn neg n d).den) (I ((jk (p:=64) (qi (by decide) hx1) (jx (qi (by decide) hx2)) hd0).1:qH (qn neg n d).num.natAbs 64) (I ((jk (p:=64) (qi (by decide) hx1) (jx (qi (by decide) hx2)) hd0).2:le2 (qn neg n d).den 64) ((Eq.refl (qn neg n d)))))))))) (fun(h7: ¬((limbs (d/g)).length=1))=>I ((vI hn0 hd0).symm:neg=decide ((qn neg n d).num<0)) (I (by rw[v8 hd0,←hg]<;>first|rfl|(rw[hg1,q1A]<;>rfl):n/g=(qn neg n d).num.natAbs) (I (BA (by rw[(jy hd0).2,←hg]<;>first|rfl|(rw[hg1,q1A]<;>rfl)) (by omega):limbs (d/g)=denL (qn neg n d).den) (I ((jk (p:=64) (qi (by decide) hx1) (jx (qi (by decide) hx2)) hd0).1:qH (qn neg n d).num.natAbs 64) (I ((jk (p:=64) (qi (by decide) hx1) (jx (qi (by decide) hx2)) hd0).2:le2 (qn neg n d).den 64) ((Eq.refl (qn neg n d))))))))))) (fun(h8: ¬((limbs g).length≠1))=>I (by omega:0<(limbs g).length) (q0O (fun(h9:(limbs g).getD 0 0≠1)=>I (by omega:0<g) (I (by omega:0<g) (q0O (fun(h10:(limbs (d/g)).length=1)=>I (by omega:0<(limbs (d/g)).length) (q0O (fun(h11:(limbs (d/g)).getD 0 0=1)=>I ((vI hn0 hd0).symm:neg=decide ((qn neg n d).num<0)) (I (by rw[v8 hd0,←hg]<;>first|rfl|(rw[hg1,q1A]<;>rfl):n/g=(qn neg n d).num.natAbs) (I (by rw[(jy hd0).2,←hg];first|exact B3 (by omega) (by omega)|(rw[hg1,q1A];exact B3 (by omega) (by omega)):(qn neg n d).den=1) (I ((jk (p:=64) (qi (by decide) hx1) (jx (qi (by decide) hx2)) hd0).1:qH (qn neg n d).num.natAbs 64) (I ((jk (p:=64) (qi (by decide) hx1) (jx (qi (by decide) hx2)) hd0).2:le2 (qn neg n d).den 64) ((Eq.refl (qn neg n d)))))))) (fun(h12: ¬((limbs (d/g)).getD 0 0=1))=>I ((vI hn0 hd0).symm:neg=decide ((qn neg n d).num<0)) (I (by rw[v8 hd0,←hg]<;>first|rfl|(rw[hg1,q1A]<;>rfl):n/g=(qn neg n d).num.natAbs) (I (BA (by rw[(jy hd0).2,←hg]<;>first|rfl|(rw[hg1,q1A]<;>rfl)) (by omega):limbs (d/g)=denL (qn neg n d).den) (I ((jk (p:=64) (qi (by decide) hx1) (jx (qi (by decide) hx2)) hd0).1:qH (qn neg n d).num.natAbs 64) (I ((jk (p:=64) (qi (by decide) hx1) (jx (qi (by decide) hx2)) hd0).2:le2 (qn neg n d).den 64) ((Eq.refl (qn neg n d)))))))))) (fun(h13: ¬((limbs (d/g)).length=1))=>I ((vI hn0 hd0).symm:neg=decide ((qn neg n d).num<0)) (I (by rw[v8 hd0,←hg]<;>first|rfl|(rw[hg1,q1A]<;>rfl):n/g=(qn neg n d).num.natAbs) (I (BA (by rw[(jy hd0).2,←hg]<;>first|rfl|(rw[hg1,q1A]<;>rfl)) (by omega):limbs (d/g)=denL (qn neg n d).den) (I ((jk (p:=64) (qi (by decide) hx1) (jx (qi (by decide) hx2)) hd0).1:qH (qn neg n d).num.natAbs 64) (I ((jk (p:=64) (qi (by decide) hx1) (jx (qi (by decide) hx2)) hd0).2:le2 (qn neg n d).den 64) ((Eq.refl (qn neg n d))))))))))) (fun(h14: ¬((limbs g).getD 0 0≠1))=>have hg1:=(B3 (by omega) (by omega):g=1);q0O (fun(h15:(limbs d).length=1)=>I (by omega:0<(limbs d).length) (q0O (fun(h16:(limbs d).getD 0 0=1)=>I ((vI hn0 hd0).symm:neg=decide ((qn neg n d).num<0)) (I (by rw[v8 hd0,←hg]<;>first|rfl|(rw[hg1,q1A]<;>rfl):n=(qn neg n d).num.natAbs) (I (by rw[(jy hd0).2,←hg];first|exact B3 (by omega) (by omega)|(rw[hg1,q1A];exact B3 (by omega) (by omega)):(qn neg n d).den=1) (I ((jk (p:=64) (qi (by decide) hx1) (jx (qi (by decide) hx2)) hd0).1:qH (qn neg n d).num.natAbs 64) (I ((jk (p:=64) (qi (by decide) hx1) (jx (qi (by decide) hx2)) hd0).2:le2 (qn neg n d).den 64) ((Eq.refl (qn neg n d)))))))) (fun(h17: ¬((limbs d).getD 0 0=1))=>I ((vI hn0 hd0).symm:neg=decide ((qn neg n d).num<0)) (I (by rw[v8 hd0,←hg]<;>first|rfl|(rw[hg1,q1A]<;>rfl):n=(qn neg n d).num.natAbs) (I (BA (by rw[(jy hd0).2,←hg]<;>first|rfl|(rw[hg1,q1A]<;>rfl)) (by omega):limbs d=denL (qn neg n d).den) (I ((jk (p:=64) (qi (by decide) hx1) (jx (qi (by decide) hx2)) hd0).1:qH (qn neg n d).num.natAbs 64) (I ((jk (p:=64) (qi (by decide) hx1) (jx (qi (by decide) hx2)) hd0).2:le2 (qn neg n d).den 64) ((Eq.refl (qn neg n d)))))))))) (fun(h18: ¬((limbs d).length=1))=>I ((vI hn0 hd0).symm:neg=decide ((qn neg n d).num<0)) (I (by rw[v8 hd0,←hg]<;>first|rfl|(rw[hg1,q1A]<;>rfl):n=(qn neg n d).num.natAbs) (I (BA (by rw[(jy hd0).2,←hg]<;>first|rfl|(rw[hg1,q1A]<;>rfl)) (by omega):limbs d=denL (qn neg n d).den) (I ((jk (p:=64) (qi (by decide) hx1) (jx (qi (by decide) hx2)) hd0).1:qH (qn neg n d).num.natAbs 64) (I ((jk (p:=64) (qi (by decide) hx1) (jx (qi (by decide) hx2)) hd0).2:le2 (qn neg n d).den 64) ((Eq.refl (qn neg n d)))))))))))) (Nat.gcd n d) rfl))⟩)
abbrev Cy:Ctr Tryz.prog:=FI.c So
abbrev Zt:FI:=⟨25,[(.int .i64)],[(.n 4611686018427387904)],fun _=>[],fun b z=>(fun(v:Int)=> .c (.agg [.dt .rat (.n (Nat.log2 (b0 b).nb+1)) ((v:Rat))])) z⟩
theorem Zu:Zt.OK Tryz.prog:=j6 hmix 13 Tryz.func25 rfl rfl (by decide) [(58,.c OU)] (fun(v:Int) b hx hp=>js (NN (Bnds.h1 hx).int)) (fun(v:Int) hx hp=>by
 have hx0:Int.natAbs v≤4611686018427387904:=hx
 refine⟨.h 2 2 (.rat (v:Rat) 64) (.nil),kcast (by kernel_rfl) (I (by rw[Bw]:decide (v<0)=decide ((v:Rat).num<0)) (I (by rw[Bw]:v.natAbs=(v:Rat).num.natAbs) (I (Fp v:(v:Rat).den=1) (I (by rw[Bw];exact q1I hx0 (by decide):qH (v:Rat).num.natAbs 64) (I (by rw[Fp];exact Nat.one_le_two_pow:le2 (v:Rat).den 64) ((Eq.refl (v:Rat))))))))⟩)
abbrev Ja:FI:=⟨47,[(.int .i64),(.int .i64)],[(.n 4611686018427387904),(.n 4611686018427387904)],fun _=>[],fun b z=>(fun(u:Int)(v:Int)=> .tup [.agg [.dt .rat (.n (max (Nat.log2 (b0 b).nb+1) (Nat.log2 (b1 b).nb+1))) ((u:Rat)/(v:Rat))],.one (.dt (.int .i64) (.n 3) (mkC' v))]) z.1 z.2⟩
theorem OR:Ja.OK Tryz.prog:=j6 hmix 29 Tryz.func47 rfl rfl (by decide) [(58,.c OU),(85,.c Cy)] (fun(u:Int)(v:Int) b hx hp=>jb (js (Gu (Bnds.h2 hx).1.int (Bnds.h2 hx).2.int)) (jb (qp (Ug v) rfl) zk)) (fun(u:Int)(v:Int) hx hp=>by
 have hx0:Int.natAbs u≤4611686018427387904:=hx.1
 have hx1:Int.natAbs v≤4611686018427387904:=hx.2
 refine⟨.nil,kcast (by kernel_rfl) (Sp (v=0) (fun h1=>q0O (by rw[show v=0 by assumption];simp[Rat.div_def]:0=((u:Int):Rat)/((v:Int):Rat)) ((if_pos (by assumption)).symm:3=mkC' v)) (fun h2=>I (?_:0<v.natAbs) (q0O (IL u v:qn (decide ((decide (u<0))≠(decide (v<0)))) u.natAbs v.natAbs=((u:Int):Rat)/((v:Int):Rat)) ((if_neg (by assumption)).symm:0=mkC' v))))⟩<;>omega)
abbrev WR:Ctr Tryz.prog:=FI.c OR
abbrev WP:FI:=⟨24,[(.int .i64),(.int .i64)],[(.n 4611686018427387904),(.n 4611686018427387904)],fun _=>[],fun b z=>(fun(u:Int)(v:Int)=> .c (.agg [.dt .rat (.n (max (Nat.log2 (b0 b).nb+1) (Nat.log2 (b1 b).nb+1))) ((u:Rat)/(v:Rat))])) z.1 z.2⟩
theorem WQ:WP.OK Tryz.prog:=j6 hmix 14 Tryz.func24 rfl rfl (by decide) [(47,.c WR)] (fun(u:Int)(v:Int) b hx hp=>js (Gu (Bnds.h2 hx).1.int (Bnds.h2 hx).2.int)) (fun(u:Int)(v:Int) hx hp=>by
 refine⟨.nil,kcast (by kernel_rfl) ((Eq.refl (((u:Int):Rat)/((v:Int):Rat))))⟩)
abbrev WW:FI:=⟨57,[.rat,.rat],[(.n 31),(.n 31)],fun _=>[],fun b z=>(fun(x:Rat)(y:Rat)=> .c (.one (.dt .bool .u (decide (x=y))))) z.1 z.2⟩
theorem OS:WW.OK Tryz.prog:=j6 hmix 26 Tryz.func57 rfl rfl (by decide) [(87,.c Fa)] (fun(x:Rat)(y:Rat) b hx hp=>qp trivial rfl) (fun(x:Rat)(y:Rat) hx hp=>by
 have hx0:Bnd .rat (.n 31) x:=hx.1
 have hx1:Bnd .rat (.n 31) y:=hx.2
 refine⟨.cond (.cond (.h 1 15 (.mag (dm x.den) 32) (.h 1 17 (.mag (dm y.den) 32) (.nil))) (.nil)) (.nil),kcast (by kernel_rfl) (Sp ((decide (x.num<0))=(decide (y.num<0))) (fun h1=>Sp (qR x.num.natAbs y.num.natAbs=0) (fun h2=>I (NA _:denL x.den=limbs (dm x.den)) (I (Qx hx0.2:qH (dm x.den) 32) (I (NA _:denL y.den=limbs (dm y.den)) (I (Qx hx1.2:qH (dm y.den) 32) ((ZB (by assumption) (by assumption):decide (qR (dm x.den) (dm y.den)=0)=decide (x=y))))))) (fun h3=>(ysame (by first|exact .inl (by assumption)|exact .inr (.inl (by assumption))):false=decide (x=y)))) (fun h4=>(ysame (by first|exact .inl (by assumption)|exact .inr (.inl (by assumption))):false=decide (x=y))))⟩)
abbrev WU:Ctr Tryz.prog:=FI.c OS
abbrev Zy:FI:=⟨26,[.rat],[(.n 31)],fun _=>[],fun b z=>(fun(x:Rat)=> .c (.agg [.dt .rat (.n ((b0 b).nb)) (-x)])) z⟩
theorem Sl:Zy.OK Tryz.prog:=j6 hmix 14 Tryz.func26 rfl rfl (by decide) [] (fun(x:Rat) b hx hp=>js (D1 (Bnds.h1 hx))) (fun(x:Rat) hx hp=>by
 refine⟨.cond (.h 2 0 (.rat (-x) 31) (.nil)) (.h 2 0 (.rat (-x) 31) (.nil)),kcast (by kernel_rfl) (Sp (¬(x.num<0)) (fun h1=>I (?_:decide (0<(limbs x.num.natAbs).length)=decide ((-x).num<0)) (I ((IO x).symm:x.num.natAbs=(-x).num.natAbs) (I (by rw[Rat.neg_den]:denL x.den=denL (-x).den) (I ((D1 hx).1:qH (-x).num.natAbs 31) (I ((D1 hx).2:le2 (-x).den 31) ((Eq.refl (-x)))))))) (fun h2=>I (?_:false=decide ((-x).num<0)) (I ((IO x).symm:x.num.natAbs=(-x).num.natAbs) (I (by rw[Rat.neg_den]:denL x.den=denL (-x).den) (I ((D1 hx).1:qH (-x).num.natAbs 31) (I ((D1 hx).2:le2 (-x).den 31) ((Eq.refl (-x)))))))))⟩<;>first|(first|exact XG (by assumption)|exact XH (by omega)))
abbrev Zx:Ctr Tryz.prog:=FI.c Sl
abbrev Zo:FI:=⟨45,[.rat,.rat],[(.n 31),(.n 31)],fun _=>[],fun b z=>(fun(x:Rat)(y:Rat)=> .c (.agg [.dt .rat (.n ((b0 b).nb+(b1 b).nb+1)) (x+y)])) z.1 z.2⟩
theorem Sj:Zo.OK Tryz.prog:=j6 hmix 75 Tryz.func45 rfl rfl (by decide) [(83,.c Ij),(84,.c Di),(85,.c Cy),(86,.c Z8),(87,.c Fa),(88,.c Zk)] (fun(x:Rat)(y:Rat) b hx hp=>js (KJ (Bnds.h2 hx).1 (Bnds.h2 hx).2)) (fun(x:Rat)(y:Rat) hx hp=>by
 refine⟨.nil,kcast (by kernel_rfl) (Sp ((limbs x.num.natAbs).length=0) (fun h1=>(by rw[wQ (x:=x) (nl0.1 (by assumption)),Rat.zero_add]:y=x+y)) (fun h2=>Sp ((limbs y.num.natAbs).length=0) (fun h3=>(by rw[wQ (x:=y) (nl0.1 (by assumption)),Rat.add_zero]:x=x+y)) (fun h4=>have hqx:=q1W x.den_nz;have hqy:=q1W y.den_nz;have hqp:=q1V hqx hqy;Sp ((decide (x.num<0))=(decide (y.num<0))) (fun h5=>I (hqp:0<x.den*y.den) ((by rw[show x+y=x+yQ (decide (y.num<0)) y by rw[BC]];first|(have hs:decide (x.num<0)=decide (y.num<0):=(by assumption);rw[hs];exact Ek hs)|exact Ei (by assumption) (Nat.le_of_not_lt (mt vT.2 (by assumption)))|exact Ej (by assumption) (by have h:=vT.1 (show qR (x.num.natAbs*y.den) (y.num.natAbs*x.den)<0 by assumption);omega):qn (decide (x.num<0)) ((x.num.natAbs*y.den)+(y.num.natAbs*x.den)) (x.den*y.den)=x+y))) (fun h6=>Sp (qR (x.num.natAbs*y.den) (y.num.natAbs*x.den)<0) (fun h7=>I (hqp:0<x.den*y.den) ((by rw[show x+y=x+yQ (decide (y.num<0)) y by rw[BC]];first|(have hs:decide (x.num<0)=decide (y.num<0):=(by assumption);rw[hs];exact Ek hs)|exact Ei (by assumption) (Nat.le_of_not_lt (mt vT.2 (by assumption)))|exact Ej (by assumption) (by have h:=vT.1 (show qR (x.num.natAbs*y.den) (y.num.natAbs*x.den)<0 by assumption);omega):qn (decide (y.num<0)) ((y.num.natAbs*x.den) -(x.num.natAbs*y.den)) (x.den*y.den)=x+y))) (fun h8=>I (hqp:0<x.den*y.den) ((by rw[show x+y=x+yQ (decide (y.num<0)) y by rw[BC]];first|(have hs:decide (x.num<0)=decide (y.num<0):=(by assumption);rw[hs];exact Ek hs)|exact Ei (by assumption) (Nat.le_of_not_lt (mt vT.2 (by assumption)))|exact Ej (by assumption) (by have h:=vT.1 (show qR (x.num.natAbs*y.den) (y.num.natAbs*x.den)<0 by assumption);omega):qn (decide (x.num<0)) ((x.num.natAbs*y.den) -(y.num.natAbs*x.den)) (x.den*y.den)=x+y)))))))⟩)
abbrev Zn:Ctr Tryz.prog:=FI.c Sj
abbrev ZC:FI:=⟨134,[.rat,.rat],[(.n 31),(.n 31)],fun _=>[],fun b z=>(fun(x:Rat)(y:Rat)=> .c (.agg [.dt .rat (.n ((b0 b).nb+(b1 b).nb+1)) (x-y)])) z.1 z.2⟩
theorem ZD:ZC.OK Tryz.prog:=j6 hmix 9 Tryz.func134 rfl rfl (by decide) [(26,.c Zx),(45,.c Zn)] (fun(x:Rat)(y:Rat) b hx hp=>js (Mu (Bnds.h2 hx).1 (Bnds.h2 hx).2)) (fun(x:Rat)(y:Rat) hx hp=>by
 refine⟨.nil,kcast (by kernel_rfl) ((by rw[Rat.sub_eq_add_neg]:x+(-y)=x-y))⟩)
abbrev Zw:FI:=⟨48,[.rat,.rat],[(.n 31),(.n 31)],fun _=>[],fun b z=>(fun(x:Rat)(y:Rat)=> .c (.agg [.dt .rat (.n ((b0 b).nb+(b1 b).nb)) (x*y)])) z.1 z.2⟩
theorem Sk:Zw.OK Tryz.prog:=j6 hmix 21 Tryz.func48 rfl rfl (by decide) [(83,.c Ij),(84,.c Di),(85,.c Cy)] (fun(x:Rat)(y:Rat) b hx hp=>js (CG (Bnds.h2 hx).1 (Bnds.h2 hx).2)) (fun(x:Rat)(y:Rat) hx hp=>by
 have hqp:=q1V (q1W x.den_nz) (q1W y.den_nz)
 refine⟨.nil,kcast (by kernel_rfl) (have hqx:=q1W x.den_nz;have hqy:=q1W y.den_nz;have hqp:=q1V hqx hqy;I (hqp:0<x.den*y.den) ((D9 x y:qn (decide ((decide (x.num<0))≠(decide (y.num<0)))) (x.num.natAbs*y.num.natAbs) (x.den*y.den)=x*y)))⟩)
abbrev Zv:Ctr Tryz.prog:=FI.c Sk
abbrev ZA:FI:=⟨256,[.rat,.rat],[(.n 31),(.n 31)],fun _=>[],fun b z=>(fun(x:Rat)(y:Rat)=> .tup [.agg [.dt .rat (.n ((b0 b).nb+(b1 b).nb)) (x/y)],.one (.dt (.int .i64) (.n 3) (quoC y))]) z.1 z.2⟩
theorem Sm:ZA.OK Tryz.prog:=j6 hmix 27 Tryz.func256 rfl rfl (by decide) [(83,.c Ij),(84,.c Di),(85,.c Cy)] (fun(x:Rat)(y:Rat) b hx hp=>jb (js (IU (Bnds.h2 hx).1 (Bnds.h2 hx).2)) (jb (qp (Ru y) rfl) zk)) (fun(x:Rat)(y:Rat) hx hp=>by
 refine⟨.nil,kcast (by kernel_rfl) (Sp ((limbs y.num.natAbs).length=0) (fun h1=>q0O (Uw (nl0.1 (by assumption)):0=x/y) ((if_pos (nl0.1 (by assumption))).symm:3=quoC y)) (fun h2=>have hy0:=(mt nl0.2 (by assumption): ¬y.num.natAbs=0);I (q1V (q1W x.den_nz) (q1W hy0):0<x.den*y.num.natAbs) (q0O (EX hy0:qn (decide ((decide (x.num<0))≠(decide (y.num<0)))) (x.num.natAbs*y.den) (x.den*y.num.natAbs)=x/y) ((if_neg hy0).symm:0=quoC y))))⟩)
abbrev Zz:Ctr Tryz.prog:=FI.c Sm
abbrev WS:FI:=⟨229,[.rat,.rat],[(.n 31),(.n 31)],fun _=>[],fun b z=>(fun(x:Rat)(y:Rat)=> .c (.agg [.dt .rat (.n ((b0 b).nb+(b1 b).nb)) (x/y)])) z.1 z.2⟩
theorem WT:WS.OK Tryz.prog:=j6 hmix 14 Tryz.func229 rfl rfl (by decide) [(256,.c Zz)] (fun(x:Rat)(y:Rat) b hx hp=>js (IU (Bnds.h2 hx).1 (Bnds.h2 hx).2)) (fun(x:Rat)(y:Rat) hx hp=>by
 refine⟨.nil,kcast (by kernel_rfl) ((Eq.refl (x/y)))⟩)
abbrev Zp:FI:=⟨112,[.rat,.rat],[(.n 31),(.n 31)],fun _=>[],fun b z=>(fun(x:Rat)(y:Rat)=> .c (.one (.dt (.int .i64) (.n 1) (jJ x y)))) z.1 z.2⟩
theorem Zq:Zp.OK Tryz.prog:=j6 hmix 34 Tryz.func112 rfl rfl (by decide) [(16,.c WX),(83,.c Ij),(84,.c Di),(87,.c Fa)] (fun(x:Rat)(y:Rat) b hx hp=>qp (L4 x y) rfl) (fun(x:Rat)(y:Rat) hx hp=>by
 refine⟨.nil,kcast (by kernel_rfl) (Sp (jc x≠jc y) (fun h1=>Sp (jc x<jc y) (fun h2=>(?_:(-1)=jJ x y)) (fun h3=>(?_:1=jJ x y))) (fun h4=>have hs:=(show jc x=jc y by omega);Sp (x.num<0) (fun h5=>(?_: -(qR (x.num.natAbs*y.den) (y.num.natAbs*x.den))=jJ x y)) (fun h6=>(?_:qR (x.num.natAbs*y.den) (y.num.natAbs*x.den)=jJ x y))))⟩<;>first|(first|exact((Fg (by assumption)).1 (by assumption)).symm|exact((Fg (by assumption)).2 (by assumption)).symm|exact(Nv hs (by assumption)).symm|exact(Nx hs (by assumption)).symm))
abbrev TO:FI:=⟨130,[(.pr .rat (.pr .rat .rat)),(.pr .rat (.pr .rat .rat))],[(.p (.n 31) (.p (.n 31) (.n 31))),(.p (.n 31) (.p (.n 31) (.n 31)))],fun _=>[],fun b z=>(fun(p:Rat×Rat×Rat)(q:Rat×Rat×Rat)=> .c (.one (.dt .bool .u (decide (p=q))))) z.1 z.2⟩
theorem TP:TO.OK Tryz.prog:=j6 hmix 18 Tryz.func130 rfl rfl (by decide) [(182,.c W5)] (fun(p:Rat×Rat×Rat)(q:Rat×Rat×Rat) b hx hp=>qp trivial rfl) (fun(p:Rat×Rat×Rat)(q:Rat×Rat×Rat) hx hp=>by
 refine⟨.nil,kcast (by kernel_rfl) (Sp ((!(decide (p.1=q.1)))=true) (fun h1=>(If (.inl (nd h1)):false=decide (p=q))) (fun h2=>Sp ((!(decide (p.2.1=q.2.1)))=true) (fun h3=>(If (.inr (.inl (nd h3))):false=decide (p=q))) (fun h4=>Sp ((!(decide (p.2.2=q.2.2)))=true) (fun h5=>(If (.inr (.inr (nd h5))):false=decide (p=q))) (fun h6=>(Z3 (nd' h2) (nd' h4) (nd' h6):true=decide (p=q))))))⟩)
abbrev TQ:FI:=⟨22,[(.pr .rat (.pr .rat .rat)),(.pr .rat (.pr .rat .rat))],[(.p (.n 31) (.p (.n 31) (.n 31))),(.p (.n 31) (.p (.n 31) (.n 31)))],fun _=>[],fun b z=>(fun(p:Rat×Rat×Rat)(q:Rat×Rat×Rat)=> .c (.one (.dt .bool .u (decide (p=q))))) z.1 z.2⟩
theorem TR:TQ.OK Tryz.prog:=j6 hmix 24 Tryz.func22 rfl rfl (by decide) [(57,.c WU)] (fun(p:Rat×Rat×Rat)(q:Rat×Rat×Rat) b hx hp=>qp trivial rfl) (fun(p:Rat×Rat×Rat)(q:Rat×Rat×Rat) hx hp=>by
 refine⟨.nil,kcast (by kernel_rfl) (Sp (decide (p.1=q.1)=true) (fun h1=>Sp (decide (p.2.1=q.2.1)=true) (fun h2=>(by rw[decide_eq_decide,My];exact⟨fun h=>⟨(yd h1),(yd h2),h⟩,fun h=>h.2.2⟩:decide (p.2.2=q.2.2)=decide (p=q))) (fun h3=>(If (.inr (.inl (yd' h3))):false=decide (p=q)))) (fun h4=>(If (.inl (yd' h4)):false=decide (p=q))))⟩)
abbrev Sd:FI:=⟨239,[.rat,(.pr .rat (.pr .rat .rat))],[(.n 31),(.p (.n 31) (.p (.n 31) (.n 31)))],fun _=>[],fun b z=>(fun(r:Rat)(q:Rat×Rat×Rat)=> .c (.agg [.dt tV3 (bV3 ((b0 b).mx+(b1 b).mx)) (B5 r q)])) z.1 z.2⟩
theorem K6:Sd.OK Tryz.prog:=j6 hmix 18 Tryz.func239 rfl rfl (by decide) [(48,.c Zv)] (fun(r:Rat)(q:Rat×Rat×Rat) b hx hp=>q0K (TB (Bnds.h2 hx).1 (Bnds.h2 hx).2)) (fun(r:Rat)(q:Rat×Rat×Rat) hx hp=>by
 refine⟨.nil,kcast (by kernel_rfl) ((rfl:(r*q.1,r*q.2.1,r*q.2.2)=B5 r q))⟩)
abbrev Sc:Ctr Tryz.prog:=FI.c K6
abbrev q0G:FI:=⟨159,[(.pr (.pr .rat (.pr .rat .rat)) .rat)],[(.p (.p (.n 31) (.p (.n 31) (.n 31))) (.n 31))],fun _=>[],fun b z=>(fun(p:(Rat×Rat×Rat)×Rat)=> .c (.agg [.dt KC (P2 (2*(b0 b).mx)) (Fk p)])) z⟩
theorem q0H:q0G.OK Tryz.prog:=j6 hmix 25 Tryz.func159 rfl rfl (by decide) [(94,.c VW),(95,.c YA)] (fun(p:(Rat×Rat×Rat)×Rat) b hx hp=>El (NG (Bnds.h1 hx))) (fun(p:(Rat×Rat×Rat)×Rat) hx hp=>by
 refine⟨.nil,kcast (by kernel_rfl) ((by rw[Rat.add_zero];rfl:(p.2*p.1.1,p.2*p.1.2.1,p.2*p.1.2.2,p.2+0)=Fk p))⟩)
abbrev WH:FI:=⟨231,[(.pr (.pr .rat (.pr .rat .rat)) .rat)],[(.p (.p (.n 31) (.p (.n 31) (.n 31))) (.n 31))],fun _=>[],fun b z=>(fun(p:(Rat×Rat×Rat)×Rat)=> .c (.agg [.dt KC (P2 (2*(b0 b).mx)) (Fk p)])) z⟩
theorem WI:WH.OK Tryz.prog:=j6 hmix 18 Tryz.func231 rfl rfl (by decide) [(239,.c Sc)] (fun(p:(Rat×Rat×Rat)×Rat) b hx hp=>El (NG (Bnds.h1 hx))) (fun(p:(Rat×Rat×Rat)×Rat) hx hp=>by
 refine⟨.nil,kcast (by kernel_rfl) ((rfl:((B5 p.2 p.1).1,((B5 p.2 p.1).2).1,((B5 p.2 p.1).2).2,p.2)=Fk p))⟩)
abbrev IW:FI:=⟨269,[(.int .i64),(.int .i64)],[(.n 4611686018427387904),(.n 4611686018427387904)],fun _=>[],fun b z=>(fun(u:Int)(v:Int)=> .tup [.agg [.dt .rat (.n (max (Nat.log2 (b0 b).nb+1) (Nat.log2 (b1 b).nb+1))) ((u:Rat)/(v:Rat))],.one (.dt (.int .i64) (.n 3) (mkC' v))]) z.1 z.2⟩
theorem W4:IW.OK Tryz.prog:=j6 hmix 19 Tryz.func269 rfl rfl (by decide) [(147,.c Mh),(149,.c Oy)] (fun(u:Int)(v:Int) b hx hp=>jb (js (Gu (Bnds.h2 hx).1.int (Bnds.h2 hx).2.int)) (jb (qp (Ug v) rfl) zk)) (fun(u:Int)(v:Int) hx hp=>by
 refine⟨.nil,kcast (by kernel_rfl) (Sp (v=0) (fun h1=>q0O (by rw[show v=0 by assumption];simp[Rat.div_def]:0=((u:Int):Rat)/((v:Int):Rat)) ((if_pos (by assumption)).symm:3=mkC' v)) (fun h2=>q0O (IL u v:qn (decide ((decide (u<0))≠(decide (v<0)))) u.natAbs v.natAbs=((u:Int):Rat)/((v:Int):Rat)) ((if_neg (by assumption)).symm:0=mkC' v)))⟩)
theorem rv_n(n:Nat):(limbs n).length=0∨(limbs n).getD ((limbs n).length-1) 0≠0:=by
 by_cases h:(limbs n).length=0
 ·exact .inl h
 ·exact .inr (Ec (by omega))
theorem rv_d(d:Nat):(denL d).length=0∨(denL d).getD ((denL d).length-1) 0≠0:=by
 unfold denL
 split
 ·exact .inl rfl
 ·exact rv_n d
theorem Uy{d:Nat}(h1:(denL d).length=1)(h2:(denL d).getD 0 0=1):False:=by
 have h:=wh (d:=d) (by omega)
 rw[h]at h1 h2
 have:=B3 h1 h2
 subst this
 have:denL 1=[]:=rfl
 rw[←h,this]at h1;simp at h1
theorem rv_z{x:Rat}(h:(limbs x.num.natAbs).length=0):x=0:=by
 have h0:x.num.natAbs=0:=nl0.1 h
 have h1:x.num=0:=by omega
 rw[←vg x,h1]
 exact wR _ _
theorem Uz{x:Rat}(h:(limbs x.num.natAbs).length=0)(h2: ¬ ¬x.num<0):False:=by
 have:=rv_z h
 subst this
 exact h2 (by decide)
theorem q0v{x:Rat}(h:(limbs x.num.natAbs).length=0)(h2:x.num<0):False:=Uz h (fun e=>e h2)
theorem q0w{x:Rat}(h:(limbs x.num.natAbs).length=0)(h2:0<(denL x.den).length):False:=by
 have:=rv_z h
 subst this
 exact absurd h2 (by decide)
theorem rv_l(x:Rat):(limbs (Nat.gcd x.num.natAbs x.den)).length=1∧decide ((limbs (Nat.gcd x.num.natAbs x.den)).getD 0 0=1)=true:=by
 have:Nat.gcd x.num.natAbs x.den=1:=x.reduced
 rw[this,B1];exact⟨rfl,rfl⟩
theorem rv_e{x:Rat}(h:(limbs x.num.natAbs).length=0):decide ((denL x.den).length=0)=true:=by
 have:=rv_z h
 subst this;rfl
theorem rv_g(x:Rat):decide (bl (Nat.gcd x.num.natAbs x.den)=1)=true:=by
 have:Nat.gcd x.num.natAbs x.den=1:=x.reduced
 rw[this];rfl
abbrev Tz:FI:=⟨122,[.rat],[(.n 31)],fun _=>[],fun b z=> .c (.one (.dt .bool .u true))⟩
theorem TA:Tz.OK Tryz.prog:=j6 hmix 52 Tryz.func122 rfl rfl (by decide) [(178,.c Ta),(179,.c H7),(180,.c gcd_c)] (fun(x:Rat) b hx hp=>qp trivial rfl) (fun(x:Rat) hx hp=>by
 have hx0:Bnd .rat (.n 31) x:=hx
 refine⟨.cond (.cond (.nil) (.cond (.nil) (.cond (.nil) (.h 5 8 (.mag x.den 32) (.nil))))) (.cond (.nil) (.cond (.nil) (.h 5 8 (.mag x.den 32) (.nil)))),kcast (by kernel_rfl) (I (rv_n _:(limbs x.num.natAbs).length=0∨(limbs x.num.natAbs).getD ((limbs x.num.natAbs).length-1) 0≠0) (I (rv_d _:(denL x.den).length=0∨(denL x.den).getD ((denL x.den).length-1) 0≠0) (Sp ((denL x.den).length=1) (fun h1=>I (?_:0<(denL x.den).length) (Sp ((denL x.den).getD 0 0=1) (fun h2=>(?_:false=true)) (fun h3=>Sp ((limbs x.num.natAbs).length=0) (fun h4=>Sp (¬(x.num<0)) (fun h5=>(rv_e (by assumption):decide ((denL x.den).length=0)=true)) (fun h6=>(?_:false=true))) (fun h7=>Sp ((denL x.den).length=0) (fun h8=>(Eq.refl true)) (fun h9=>I (wh (by omega):denL x.den=limbs x.den) (I (wX hx0.2:qH x.den 32) ((rv_g x:decide (bl (Nat.gcd x.num.natAbs x.den)=1)=true)))))))) (fun h10=>Sp ((limbs x.num.natAbs).length=0) (fun h11=>Sp (¬(x.num<0)) (fun h12=>(rv_e (by assumption):decide ((denL x.den).length=0)=true)) (fun h13=>(?_:false=true))) (fun h14=>Sp ((denL x.den).length=0) (fun h15=>(Eq.refl true)) (fun h16=>I (wh (by omega):denL x.den=limbs x.den) (I (wX hx0.2:qH x.den 32) ((rv_g x:decide (bl (Nat.gcd x.num.natAbs x.den)=1)=true)))))))))⟩<;>first|omega|(first|exact(Uy (by assumption) (by assumption)).elim|exact(Uz (by assumption) (by assumption)).elim))
abbrev U4:FI:=⟨61,[.rat],[(.n 31)],fun _=>[],fun b z=> .c (.one (.dt .bool .u true))⟩
theorem U5:U4.OK Tryz.prog:=j6 hmix 57 Tryz.func61 rfl rfl (by decide) [(84,.c Di),(110,.c U1),(111,.c Sg)] (fun(x:Rat) b hx hp=>qp trivial rfl) (fun(x:Rat) hx hp=>by
 refine⟨.nil,kcast (by kernel_rfl) (I (rv_n _:(limbs x.num.natAbs).length=0∨(limbs x.num.natAbs).getD ((limbs x.num.natAbs).length-1) 0≠0) (I (rv_d _:(denL x.den).length=0∨(denL x.den).getD ((denL x.den).length-1) 0≠0) (Sp ((denL x.den).length=1) (fun h1=>I (?_:0<(denL x.den).length) (Sp ((denL x.den).getD 0 0=1) (fun h2=>(?_:false=true)) (fun h3=>Sp ((limbs x.num.natAbs).length=0) (fun h4=>Sp (x.num<0) (fun h5=>(?_:false=true)) (fun h6=>Sp (0<(denL x.den).length) (fun h7=>(?_:false=true)) (fun h8=>Sp ((limbs (Nat.gcd x.num.natAbs x.den)).length=1) (fun h9=>I (?_:0<(limbs (Nat.gcd x.num.natAbs x.den)).length) (((rv_l x).2:decide ((limbs (Nat.gcd x.num.natAbs x.den)).getD 0 0=1)=true))) (fun h10=>(?_:false=true))))) (fun h11=>Sp ((limbs (Nat.gcd x.num.natAbs x.den)).length=1) (fun h12=>I (?_:0<(limbs (Nat.gcd x.num.natAbs x.den)).length) (((rv_l x).2:decide ((limbs (Nat.gcd x.num.natAbs x.den)).getD 0 0=1)=true))) (fun h13=>(?_:false=true)))))) (fun h14=>Sp ((limbs x.num.natAbs).length=0) (fun h15=>Sp (x.num<0) (fun h16=>(?_:false=true)) (fun h17=>Sp (0<(denL x.den).length) (fun h18=>(?_:false=true)) (fun h19=>Sp ((limbs (Nat.gcd x.num.natAbs x.den)).length=1) (fun h20=>I (?_:0<(limbs (Nat.gcd x.num.natAbs x.den)).length) (((rv_l x).2:decide ((limbs (Nat.gcd x.num.natAbs x.den)).getD 0 0=1)=true))) (fun h21=>(?_:false=true))))) (fun h22=>Sp ((limbs (Nat.gcd x.num.natAbs x.den)).length=1) (fun h23=>I (?_:0<(limbs (Nat.gcd x.num.natAbs x.den)).length) (((rv_l x).2:decide ((limbs (Nat.gcd x.num.natAbs x.den)).getD 0 0=1)=true))) (fun h24=>(?_:false=true)))))))⟩<;>first|omega|(first|exact(Uy (by assumption) (by assumption)).elim|exact(q0v (by assumption) (by assumption)).elim|exact(q0w (by assumption) (by assumption)).elim|exact absurd (rv_l x).1 (by assumption)))
abbrev WN:FI:=⟨115,[.rat],[(.n 31)],fun _=>[],fun b z=>(fun(x:Rat)=> .c (.one (.dt (.int .i64) (.n ((b0 b).nb+((b0 b).nb+1))) (max ((bl x.num.natAbs:Nat):Int) ((bl x.den:Nat):Int))))) z⟩
theorem WO:WN.OK Tryz.prog:=j6 hmix 10 Tryz.func115 rfl rfl (by decide) [(84,.c Di),(172,.c WE)] (fun(x:Rat) b hx hp=>qp (JQ (Bnds.h1 hx)) rfl) (fun(x:Rat) hx hp=>by
 refine⟨.nil,kcast (by kernel_rfl) ((Eq.refl (max ((bl x.num.natAbs:Nat):Int) ((bl x.den:Nat):Int))))⟩)
abbrev XO:FI:=⟨54,[.rat],[(.n 1099511627776)],fun _=>[],fun b z=>(fun(x:Rat)=> .c (.agg [.dt .rat (b0 b) x])) z⟩
theorem XP:XO.OK Tryz.prog:=j6 hmix 12 Tryz.func54 rfl rfl (by decide) [(105,.c Gf)] (fun(x:Rat) b hx hp=>El (Bnds.h1 hx)) (fun(x:Rat) hx hp=>by
 have hx0:Bnd .rat (.n 1099511627776) x:=hx
 refine⟨.h 1 7 (.c BH) (.h 1 8 (.rat x 1099511627776) (.nil)),kcast (by kernel_rfl) (I (Eq.refl (decide (x.num<0))) (I (Eq.refl x.num.natAbs) (I (Eq.refl (denL x.den)) (I (hx0.1:qH x.num.natAbs 1099511627776) (I (hx0.2:le2 x.den 1099511627776) ((Eq.refl x)))))))⟩)
abbrev Dice:Type:=List Int×Nat
abbrev PY:Ty:= .pr (.sl (.int .i64)) (.nat .i64)
theorem mod_a{a m:Int}(hm:0<m)(h:Int.tmod a m<0):Int.tmod a m+m=a%m:=by
 have h1:=Int.tmod_eq_emod (a:=a) (b:=m)
 have h2:=Int.emod_nonneg a (show m≠0 by omega)
 have h3:=Int.emod_lt_of_pos a hm
 split at h1<;>omega
theorem ZZ{a m:Int}(hm:0<m)(h: ¬Int.tmod a m<0):Int.tmod a m=a%m:=by
 have h1:=Int.tmod_eq_emod (a:=a) (b:=m)
 have h2:=Int.emod_nonneg a (show m≠0 by omega)
 have h3:=Int.emod_lt_of_pos a hm
 split at h1<;>omega
theorem R6{a m:Int}{b:Nat}(hm:0<m)(hb:Int.natAbs m≤b):(a%m).natAbs≤b:=by
 have h2:=Int.emod_nonneg a (show m≠0 by omega)
 have h3:=Int.emod_lt_of_pos a hm
 omega
def HC(s:Dice)(m:Int):Int:=if s.1.length≤s.2 then 0 else s.1.getD s.2 0%m
def HA(s:Dice):Dice:=if s.1.length≤s.2 then s else(s.1,s.2+1)
theorem VF{s:Dice}{m:Int}{b:Nat}(hm:0<m)(hb:Int.natAbs m≤b):(HC s m).natAbs≤b:=by
 unfold HC;split
 ·simp
 ·exact R6 hm hb
theorem VE{s:Dice}{b:Bd}(h:Bnd PY b s):Bnd PY (.p b.l (.n (max b.r.nb b.l.len))) (HA s):=by
 have h1:=h.pr
 have h2:=h1.2.nat
 have h3:=h1.1.sl.1
 unfold HA;split
 ·exact⟨h1.1,q1H h2 (Nat.le_max_left _ _)⟩
 ·refine⟨h1.1,?_⟩
  show s.2+1≤_
  have:=Nat.le_max_right b.r.nb b.l.len
  omega
abbrev VA:FI:=⟨5,[(.sl (.int .i64))],[(.s 9223372036854775807 (.n 9223372036854775808))],fun _=>[],fun b z=>(fun(l:List Int)=> .c (.one (.dt .bool .u (decide (l.length≤500))))) z⟩
theorem VB:VA.OK Tryz.prog:=j6 hmix 6 Tryz.func5 rfl rfl (by decide) [] (fun(l:List Int) b hx hp=>qp trivial rfl) (fun(l:List Int) hx hp=>by
 refine⟨.nil,kcast (by kernel_rfl) ((Eq.refl (decide (l.length≤500))))⟩)
abbrev Xd:FI:=⟨34,[(.int .i64),(.int .i64)],[(.n 9223372036854775808),(.n 1099511627776)],fun z=>(fun(a:Int)(m:Int)=>[(0:Int)<m]) z.1 z.2,fun b z=>(fun(a:Int)(m:Int)=> .c (.one (.dt (.int .i64) (.n (b1 b).nb) (a%m)))) z.1 z.2⟩
theorem Xe:Xd.OK Tryz.prog:=j6 hmix 14 Tryz.func34 rfl rfl (by decide) [] (fun(a:Int)(m:Int) b hx hp=>qp (R6 (hp _ q1k) (Bnds.h2 hx).2.int) rfl) (fun(a:Int)(m:Int) hx hp=>by
 have hx0:Int.natAbs a≤9223372036854775808:=hx.1
 have hx1:Int.natAbs m≤1099511627776:=hx.2
 have hp0:(0:Int)<m:=hp _ (q1k)
 refine⟨.nil,kcast (by kernel_rfl) (I (?_:m≠0) (Sp (Int.tmod a m<0) (fun h1=>(mod_a hp0 h1:(Int.tmod a m)+m=a%m)) (fun h2=>(ZZ hp0 h2:Int.tmod a m=a%m))))⟩<;>omega)
abbrev Xc:Ctr Tryz.prog:=FI.c Xe
abbrev V2:FO:=⟨7,[(.sl (.int .i64))],[(.s 1048576 (.n 9223372036854775808))],fun _=>[],fun k b z=> .c (.one (.loc k 0)),fun b z=>(fun(l:List Int)=> .rig [.dt (.pr (.sl (.int .i64)) (.nat .i64)) (.p (b0 b) (.n 0)) ((l,0))]) z⟩
theorem V4:V2.OK Tryz.prog:=mkO hmix 6 5 Tryz.func7 rfl rfl (by decide) [] (fun _=>rfl) (fun _ _ _=>rfl) (fun _ _=>rfl) (fun _ _ _=>⟨rfl,rfl⟩) (fun(l:List Int) k b hx hp=>⟨⟨trivial,rfl⟩,jZ (show Bnd PY (.p (b0 b) (.n 0)) (l,0)from⟨Bnds.h1 hx,q1G _⟩)⟩) (fun(l:List Int) hx hp=>by
 refine bodyO.p (.nil) (kcast (by kernel_rfl) (q0O (rfl:(l,0)=(l,0)) (rfl:5=5))))
abbrev V0:FB:=⟨11,(.pr (.sl (.int .i64)) (.nat .i64)),(.p (.s 1048576 (.n 9223372036854775808)) (.n 1048576)),[(.int .i64)],[(.n 1099511627776)],fun s z=>(fun(m:Int)=>[(0:Int)<m]) z,fun tb b s z=>(fun(m:Int)=> .c (.one (.dt (.int .i64) (.n (b0 b).nb) (HC s m)))) z,fun s z=>HA s,fun tb b=> .p tb.l (.n (max tb.r.nb tb.l.len))⟩
theorem V1:V0.OK Tryz.prog:=mkB' hmix 35 Tryz.func11 rfl rfl (by decide) [(34,.c Xc)] (fun _=>rfl) (fun _ _=>rfl) (fun _ _ _ _=>rfl) (fun(s:List Int×Nat)(m:Int) tb b hs hx hp=>⟨qp (VF (hp _ q1k) (Bnds.h1 hx).int) rfl,VE hs⟩) (fun(s:List Int×Nat)(m:Int) hs hx hp=>by
 have hx0:Int.natAbs m≤1099511627776:=hx
 have hp0:(0:Int)<m:=hp _ (q1k)
 have hsl:s.1.length≤1048576:=hs.1.1
 refine⟨.cond (.nil) (.h 4 9 (.ix s.2) (.nil)),kcast (by kernel_rfl) (Sp (s.1.length≤s.2) (fun h1=>q0O ((if_pos h1).symm:s=HA s) (((if_pos h1).symm:0=HC s m))) (fun h2=>I (?_:((s.2+1:Nat):Int) -1=((s.2:Nat):Int)) (I (?_:s.2<s.1.length) (I (hp0:(0:Int)<m) (q0O ((if_neg h2).symm:(s.1,s.2+1)=HA s) (((if_neg h2).symm:(s.1.getD s.2 0)%m=HC s m)))))))⟩<;>omega)
end Go.Proofs.YtjemkhmahjnfaaaGreat.Sx
