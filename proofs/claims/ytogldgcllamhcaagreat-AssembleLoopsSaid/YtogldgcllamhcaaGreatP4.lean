/-
Own laws and walks for the claim, part 4: WNl, WRl, WRl2, WRl3, WZs, WNat1, WNat2, WNat3, WNat4, WNat5, WNat6, WRat1, WRat2, WRat3, WRat4, WAdd64, WRat5, WRat6, WRat7, WRat8, WZm, WRef1, WXl, WRef2, WRef3, WRef4, WXl2, WRef5, WRef6. No condition.
-/
import Derived.Test.YtogldgcllamhcaaGreatP3
namespace Go.Proofs.YtogldgcllamhcaaGreat.Sx
open Go Go.Proofs
set_option linter.unusedVariables false
set_option linter.unusedSimpArgs false
set_option maxRecDepth 20000
set_option maxHeartbeats 4000000
theorem AddI.fin'{x y i c:Nat}{out:List Nat}(h:AddI x y i c out)(hi:i=(limbs x).length)(hyx:(limbs y).length≤(limbs x).length):
  q9 (out.set (limbs x).length c)=x+y∧(∀u∈out.set (limbs x).length c,u<4294967296):=by
 subst hi
 have e:c%4294967296=c:=q1M (by have:=h.hc;omega)
 have:=h.fin hyx
 rwa [e]at this
theorem Ey(x:Nat):argsE [.mag] x=argsE [.sl (.nat .u32)] (limbs x):=by
 show[argC .mag x]=[argC (.sl (.nat .u32)) (limbs x)]
 unfold argC
 rw[B2];rfl
theorem qy{l:List Nat}{i:Nat}(h: ¬i<l.length):l.getD i 0=0:=by
 rw[q11,q16 (by omega)];rfl
theorem Hv{l:List Nat}{n i x:Nat}(h:n=l.length):n=(l.set i x).length:=by rw[List.length_set];exact h
theorem MulJ.fin'{x y i j c:Nat}{o0 out:List Nat}(hI:MulI x y i o0)(hi:i<(limbs x).length)(h:MulJ x y i ((limbs x).getD i 0) j c o0 out)(hj:j=(limbs y).length):
  MulI x y (i+1) (out.set (i+(limbs y).length) c):=by
 subst hj
 have:=MulJ.fin hI hi h
 rwa [q1M h.hc]at this
theorem MulI.fin'{x y i:Nat}{out:List Nat}(h:MulI x y i out)(hi:i=(limbs x).length):q9 out=x*y∧ ∀u∈out,u<4294967296:=by subst hi;exact⟨h.fin,h.hu⟩
theorem SubI.fin'{x y i c:Nat}{out:List Nat}(h:SubI x y i c out)(hi:i=(limbs x).length)(hxy:y≤x):q9 out=x-y∧(∀u∈out,u<4294967296):=by subst hi;exact h.fin hxy
theorem z7{a s:Nat}(ha:a<18446744073709551616)(hs:s≤18446744073709551616):qJ .sub .u64 (a:Int) (s:Int) ((dif a s:Nat):Int):=Vi ha hs
theorem vE(a s:Nat):dif a s≤18446744073709551615:=q1F zq
theorem Ce{a b:Nat}(x s:Nat)(hab:a=x*2^s)(hb:b<2^s)(h:a+b<18446744073709551616):qJ .or .u64 (a:Int) (b:Int) ((a+b:Nat):Int):=Oz x s hab hb h
theorem Hl{a b:Nat}(x s:Nat)(hab:a=x*2^s)(hb:b<2^s)(h:b+a<18446744073709551616):qJ .or .u64 (b:Int) (a:Int) ((b+a:Nat):Int):=TH x s hab hb h
theorem V3{a b:Nat}(x s:Nat)(hab:a=x*2^s)(hb:b<2^s)(h:b+a<4294967296):qJ .or .u32 (b:Int) (a:Int) ((b+a:Nat):Int):=W8 x s hab hb h
theorem L8{a:Nat}(h:a<18446744073709551616):qJ .and .u64 (a:Int) 4294967295 ((a%4294967296:Nat):Int):=SQ h
theorem L9{k:IntKind}(x s:Nat)(h:s≤k.bits):qJ .shr k (x:Int) (s:Int) ((x/2^s:Nat):Int):=⟨q0T _,shrN x s h⟩
theorem Hm(x s:Nat)(h:s≤64)(hx:x*2^s<18446744073709551616):qJ .shl .u64 (x:Int) (s:Int) ((x*2^s:Nat):Int):=⟨q0T _,U0 x s h hx⟩
theorem V4(x s:Nat)(h:s≤32):qJ .shl .u32 (x:Int) (s:Int) ((x*2^s%4294967296:Nat):Int):=⟨q0T _,U1 x s h⟩
theorem IC(x y:Nat):qJ .add .u32 (x:Int) (y:Int) (((x+y)%4294967296:Nat):Int):=by
 show IntKind.u32.wrap ((x:Int)+y)=_
 rw[←Int.natCast_add];exact Oo _
theorem NE{x u i r:Nat}{out:List Nat}(h:SmallI x u i r out)(hi:i=0):q9 out=x/u∧r=x%u∧ ∀v∈out,v<4294967296:=by subst hi;exact⟨h.fin.1,h.fin.2,h.hu⟩
structure CmpI (x y:Nat) (z:Int):Prop where
 h0: -1≤z
 h1:z<(limbs x).length
 hd:(limbs x).drop (z+1).toNat=(limbs y).drop (z+1).toNat
theorem CmpI.start{x y:Nat}(h:(limbs x).length=(limbs y).length):CmpI x y (((limbs x).length:Int) -1):=by
 refine⟨by omega,by omega,?_⟩
 rw[show((((limbs x).length:Int) -1)+1).toNat=(limbs x).length by omega,List.drop_length,h,List.drop_length]
theorem CmpI.at{x y:Nat}{z:Int}(hl:(limbs x).length=(limbs y).length)(h:CmpI x y z)(hz:0≤z):
  ((limbs x).getD z.toNat 0=(limbs y).getD z.toNat 0→CmpI x y (z-1))∧((limbs x).getD z.toNat 0<(limbs y).getD z.toNat 0→qM x y= -1)∧((limbs y).getD z.toNat 0<(limbs x).getD z.toNat 0→qM x y=1):=by
 have h1:=h.h1
 have hd:=h.hd
 rw[show(z+1).toNat=z.toNat+1 by omega]at hd
 have q:=Ln hl (show z.toNat<(limbs x).length by omega) hd
 have q':=Ln hl.symm (show z.toNat<(limbs y).length by omega) hd.symm
 refine⟨fun e=>⟨by omega,by omega,?_⟩,fun e=>?_,fun e=>?_⟩
 ·rw[show(z-1+1).toNat=z.toNat by omega];exact q.1 e
 ·have:=q.2 e;rw[qM,if_pos this]
 ·have:=q'.2 e;rw[qM,if_neg (by omega),if_neg (by omega)]
theorem CmpI.fin{x y:Nat}{z:Int}(h:CmpI x y z)(hz:z<0):qM x y=0:=by
 have h0:=h.h0
 have hd:=h.hd
 rw[show(z+1).toNat=0 by omega]at hd
 exact CY.2 (Xt hd)
theorem Ll{x y:Nat}(h:(limbs x).length<(limbs y).length):qM x y= -1:=by rw[qM,if_pos (Hr h)]
theorem Lm{x y:Nat}(h:(limbs y).length<(limbs x).length):qM x y=1:=by
 have:=Hr h
 rw[qM,if_neg (by omega),if_neg (by omega)]
theorem NN(x y:Nat):(qM x y).natAbs≤1:=by have:=ZJ x y;omega
theorem Bnd.magLe{b:Bd}{x y:Nat}(h:Bnd .mag b x)(k:y≤x):Bnd .mag b y:=by
 cases b with
 |n b=>exact C2 h k
 |_=>exact h.elim
structure SmallZ (x u:Nat) (z:Int) (r:Nat) (out:List Nat):Prop where
 h0: -1≤z
 h:SmallI x u (z+1).toNat r out
theorem SmallZ.start{x u:Nat}(hu:0<u):SmallZ x u (((limbs x).length:Int) -1) 0 (List.replicate (limbs x).length 0):=by
 refine⟨by omega,?_⟩
 rw[show((((limbs x).length:Int) -1)+1).toNat=(limbs x).length by omega]
 exact SmallI.start hu
theorem SmallZ.b{x u r:Nat}{z:Int}{out:List Nat}(h:SmallZ x u z r out): -1≤z∧z<(limbs x).length∧out.length=(limbs x).length∧r<u:=by
 have h0:=h.h0
 have h1:=h.h.hi
 exact⟨h0,by omega,h.h.hl,h.h.hr⟩
theorem SmallZ.step{x u r d:Nat}{z:Int}{out:List Nat}(h:SmallZ x u z r out)(hz:0≤z)(hd:d=r*2^32+(limbs x).getD z.toNat 0):
  SmallZ x u (z-1) (d%u) (out.set z.toNat (d/u%4294967296)):=by
 refine⟨by omega,?_⟩
 have e1:(z+1).toNat-1=z.toNat:=by omega
 have:=h.h.step (d:=d) (by omega) (by rw[e1];exact hd)
 rw[show(z-1+1).toNat=z.toNat by omega]
 rwa [e1]at this
theorem SmallZ.fin{x u r:Nat}{z:Int}{out:List Nat}(h:SmallZ x u z r out)(hz:z<0):q9 out=x/u∧r=x%u∧ ∀v∈out,v<4294967296:=
 NE h.h (by omega)
structure WordZ (x:Nat) (z:Int) (v:Nat):Prop where
 h0: -1≤z
 h1:z<(limbs x).length
 hv:v=q9 ((limbs x).drop (z+1).toNat)
theorem WordZ.start(x:Nat):WordZ x (((limbs x).length:Int) -1) 0:=by
 refine⟨by omega,by omega,?_⟩
 rw[show((((limbs x).length:Int) -1)+1).toNat=(limbs x).length by omega,List.drop_length];rfl
theorem WordZ.lt{x v:Nat}{z:Int}(h:WordZ x z v)(hx:(limbs x).length≤2)(hz:0≤z):v<4294967296:=by
 rw[h.hv];exact X3 hx (by omega)
theorem WordZ.step{x v:Nat}{z:Int}(h:WordZ x z v)(hz:0≤z):WordZ x (z-1) (v*2^32+(limbs x).getD z.toNat 0):=by
 have h1:=h.h1
 refine⟨by omega,by omega,?_⟩
 have:=Sy (x:=x) (i:=z.toNat) (by omega)
 rw[show z.toNat+1=(z+1).toNat by omega,←h.hv]at this
 rw[show(z-1+1).toNat=z.toNat by omega];exact this
theorem WordZ.fin{x v:Nat}{z:Int}(h:WordZ x z v)(hz:z<0):v=x:=by
 have h0:=h.h0
 have:=h.hv
 rwa [show(z+1).toNat=0 by omega,q0Y,qu]at this
theorem RaiseI.fin'{x s i c:Nat}{out:List Nat}(h:RaiseI x s i c out)(hi:i=(limbs x).length)(hs:s≤32):
  out.set (limbs x).length c=padL (x*2^s) ((limbs x).length+1):=by
 subst hi
 have hc:c<4294967296:=q1J h.hc (q1Y (show 0<2 by omega) hs)
 have:=h.fin hs
 rwa [q1M hc]at this
theorem Ms(v n:Nat): ∀u∈padL v n,Bnd (.nat .u32) (.n 4294967295) u:=fun u hu=>q1F (FZ n v u hu)
theorem Ol{b:Bd}{x:Nat}(h:Bnd .mag b x):(limbs x).length≤b.nb/32+1:=qg (q1E h.mag)
theorem Bnd.natLe{k:IntKind}{b:Bd}{x y:Nat}(h:Bnd (.nat k) b x)(hy:y≤x):Bnd (.nat k) b y:=by
 cases b with
 |n b=>exact q1H hy h
 |_=>exact h.elim
theorem magE(x:Nat)(b c:Bd):(WV.c (.one (.dt (.sl (.nat .u32)) b (limbs x)))).exp=(WV.c (.one (.dt .mag c x))).exp:=by
 show AV.c (.one ((qm (.sl (.nat .u32)) (limbs x)).headD _))=AV.c (.one ((qm .mag x).headD _))
 rw[B2]
theorem J5{ls:List Nat}(h: ∀u∈ls,u<4294967296):(limbs (q9 ls)).length≤ls.length:=
 FT (k:=ls.length) (jS ls h)
theorem Hn{x m:Nat}(h:x<2^m):bl x≤m:=by
 rcases q1C x with e|e
 ·subst e;rw[Fu];exact q23 _
 ·have h2:=Ft (n:=x) (by omega)
  have h3:2^(bl x-1)<2^m:=q1I h2 h
  have:=(Nat.pow_lt_pow_iff_right (show 1<2 by omega)).1 h3
  omega
theorem Xr{x b:Nat}(h:x≤b):bl x≤Nat.log2 b+1:=Hn (q1I h Nat.lt_log2_self)
theorem Qw{b:Bd}{k:IntKind}{x:Nat}(h:Bnd .mag b x):Bnd (.nat k) b (bl x):=by
 cases b with
 |n b=>exact Hn h
 |_=>exact h.elim
theorem HM(x:Nat):IntKind.u8.wrap (x:Int)=((x%256:Nat):Int):=by
 simp only[IntKind.wrap,IntKind.bits,IntKind.signed];simp
theorem L7{a b:Nat}(h:a+b≤18446744073709551615):qJ .add .u64 (a:Int) (b:Int) ((a+b:Nat):Int):=by
 show IntKind.u64.wrap ((a:Int)+b)=_
 rw[←Int.natCast_add];exact ws (by omega)
structure DivZ (x y s:Nat) (z:Int) (ls ql:List Nat):Prop where
 h0: -1≤z
 h:DivI x y s (z+1).toNat ls ql
theorem DivZ.b{x y s:Nat}{z:Int}{ls ql:List Nat}(h:DivZ x y s z ls ql): -1≤z∧(z+1).toNat≤(limbs x).length+1-(limbs y).length∧ls.length=(limbs x).length+1∧ql.length=(limbs x).length+1-(limbs y).length:=
 ⟨h.h0,h.h.hi,h.h.hl,h.h.hql⟩
theorem DivZ.at{x y s j:Nat}{z:Int}{ls ql:List Nat}(h:DivZ x y s z ls ql)(hz:0≤z)(hj:j=z.toNat):DivI x y s (j+1) ls ql:=by
 have:=h.h
 rwa [show(z+1).toNat=j+1 by omega]at this
theorem DivZ.of{x y s j:Nat}{z:Int}{ls ql:List Nat}(hz:0≤z)(hj:j=z.toNat)(h:DivI x y s j ls ql):DivZ x y s (z-1) ls ql:=
 ⟨by omega,by rwa [show(z-1+1).toNat=j by omega]⟩
theorem DivZ.start{x y s n:Nat}(c:DivC x y s)(hn:n=(limbs x).length+1-(limbs y).length):DivZ x y s ((n:Int) -1) (padL (x*2^s) ((limbs x).length+1)) (List.replicate n 0):=by
 have:=c.hyx
 subst hn
 refine⟨by omega,?_⟩
 rw[show((((limbs x).length+1-(limbs y).length:Nat):Int) -1+1).toNat=(limbs x).length+1-(limbs y).length by omega]
 exact DivI.start c
theorem DivZ.fin{x y s:Nat}{z:Int}{ls ql:List Nat}(h:DivZ x y s z ls ql)(hz:z<0):q9 ql=x/y∧q9 ls=x%y*2^s∧(∀u∈ql,u<4294967296)∧ ∀u∈ls,u<4294967296:=by
 have h0:=h.h0
 have:=h.h
 rw[show(z+1).toNat=0 by omega]at this
 exact⟨this.fin.1,this.fin.2,this.hqu,this.hu⟩
theorem AbI.top'{y s j c:Nat}{l0 ls:List Nat}{n:Nat}(h:AbI y s j l0 n c ls)(hn:(limbs (y*2^s)).length=n)(hj:j+n<l0.length):
  ∃c2,q9 ((ls.set (j+n) ((ls.getD (j+n) 0+c)%4294967296)).take (j+n+1))+4294967296^(j+n+1)*c2=q9 (l0.take (j+n+1))+4294967296^j*(y*2^s)∧
  (ls.set (j+n) ((ls.getD (j+n) 0+c)%4294967296)).drop (j+n+1)=l0.drop (j+n+1)∧(ls.set (j+n) ((ls.getD (j+n) 0+c)%4294967296)).length=l0.length∧
  ∀u∈ls.set (j+n) ((ls.getD (j+n) 0+c)%4294967296),u<4294967296:=by
 have:=h.top hn hj
 rwa [q1M (show c<4294967296 by have:=h.hc;omega)]at this
theorem DownI.fin'{W s N i n:Nat}{ls:List Nat}(h:DownI W s N i ls)(hi: ¬i<(limbs W).length)(hn:n=(limbs W).length):q9 (ls.take n)=W/2^s∧ ∀u∈ls.take n,u<4294967296:=by
 have h1:=h.hi
 have e:i=(limbs W).length:=by omega
 subst hn e
 exact⟨h.fin,fun u hu=>h.hu u (q1m hu)⟩
theorem Ro{y s m:Nat}(hy:qt y m)(hs:s≤32):qt (y*2^s) (m+32):=by
 unfold qt at*
 rw[q1X]
 exact q1J (Nat.mul_lt_mul_of_pos_right hy (q1Z (by omega))) (q1T _ (q1Y (by omega) hs))
theorem K4{a s c:Nat}(ha:a<4294967296)(hs:s≤32)(hc:c<2^s):c+a*2^s<18446744073709551616:=by
 have h1:(2:Nat)^s≤4294967296:=q1Y (show 0<2 by omega) hs
 have h2:(a+1)*2^s≤4294967296*4294967296:=q1S ha h1
 rw[q1w]at h2
 omega
theorem NS{s i:Nat}{l:List Nat}(hs:s≤32)(hu: ∀k,l.getD k 0<4294967296)(hi:i<l.length):
  qJ .or .u32 (((l.set i (l.getD i 0/2^s)).getD i 0:Nat):Int) (((l.set i (l.getD i 0/2^s)).getD (i+1) 0*2^(32-s)%4294967296:Nat):Int)
   (((l.set i (l.getD i 0/2^s)).getD i 0+(l.set i (l.getD i 0/2^s)).getD (i+1) 0*2^(32-s)%4294967296:Nat):Int)∧
  (l.set i (l.getD i 0/2^s)).getD i 0+(l.set i (l.getD i 0/2^s)).getD (i+1) 0*2^(32-s)%4294967296≤4294967295:=by
 have h:=Vm hs (hu i) (hu (i+1))
 rw[Et hi,CN (by omega)]
 exact⟨V3 (l.getD (i+1) 0%2^s) (32-s) h.2.2 h.1 h.2.1,by omega⟩
theorem zE(a b:Nat):Nat.gcd b (a%b)=Nat.gcd a b:=by
 rw[Nat.gcd_comm b,←Nat.gcd_rec,Nat.gcd_comm]
def subC(x y:Nat):Int:=if x<y then 7 else 0
theorem Si(x y:Nat):(subC x y).natAbs≤7:=by unfold subC;split<;>decide
theorem Io{x y:Nat}:subC x y=0↔y≤x:=by unfold subC;split<;>omega
def sgI(neg:Bool)(n:Nat):Int:=if neg then-(n:Int)else n
def qd(neg:Bool)(n d:Nat):Rat:=mkRat (sgI neg n) d
theorem OR(neg:Bool)(n:Nat):(sgI neg n).natAbs=n:=by unfold sgI;split<;>simp
theorem A6(neg:Bool)(d:Nat):qd neg 0 d=0:=by unfold qd sgI;cases neg<;>simp
theorem Ff(neg:Bool)(n:Nat):qd neg n 0=0:=by unfold qd;simp[Rat.mkRat_zero]
theorem j0{neg:Bool}{n d:Nat}(hd:0<d):(qd neg n d).num=sgI neg n/((Nat.gcd n d:Nat):Int)∧(qd neg n d).den=d/Nat.gcd n d:=by
 have h:qd neg n d=Rat.normalize (sgI neg n) d (by omega):=(Rat.normalize_eq_mkRat (by omega)).symm
 have e:=Rat.normalize_eq (num:=sgI neg n) (den:=d) (by omega)
 rw[h,e]
 refine⟨?_,?_⟩
 ·show sgI neg n/(((sgI neg n).natAbs.gcd d:Nat):Int)=_
  rw[OR]
 ·show d/(sgI neg n).natAbs.gcd d=_
  rw[OR]
theorem jg{neg:Bool}{n d:Nat}(hd:0<d):(qd neg n d).num.natAbs=n/Nat.gcd n d:=by
 rw[(j0 hd).1]
 unfold sgI
 have hg:(Nat.gcd n d)∣n:=Nat.gcd_dvd_left n d
 obtain⟨k,hk⟩:=hg
 have hg0:0<Nat.gcd n d:=Nat.gcd_pos_of_pos_right _ hd
 generalize Nat.gcd n d=g at*
 subst hk
 rw[Nat.mul_div_cancel_left _ hg0]
 split
 ·rw[q0S,←Int.mul_neg,Int.mul_ediv_cancel_left _ (by omega)];simp
 ·rw[q0S,Int.mul_ediv_cancel_left _ (by omega)];simp
theorem jr{neg:Bool}{n d:Nat}(hn:0<n)(hd:0<d):decide ((qd neg n d).num<0)=neg:=by
 rw[(j0 hd).1]
 have hg0:0<Nat.gcd n d:=Nat.gcd_pos_of_pos_right _ hd
 obtain⟨k,hk⟩:=Nat.gcd_dvd_left n d
 generalize Nat.gcd n d=g at*
 subst hk
 have hk0:0<k:=q1W (fun e=>by subst e;simp at hn)
 unfold sgI
 cases neg
 ·simp only[q0Q,if_false,q0S,Int.mul_ediv_cancel_left _ (show(g:Int)≠0 by omega)]
  simp
 ·simp only[if_true]
  rw[q0S,←Int.mul_neg,Int.mul_ediv_cancel_left _ (by omega)]
  simp;omega
theorem WM(a b:Bool)(n m:Nat):sgI a n*sgI b m=sgI (decide (a≠b)) (n*m):=by
 cases a<;>cases b<;>simp[sgI,q0S,Int.neg_mul,Int.mul_neg]
theorem MD(z:Int):sgI (decide (z<0)) z.natAbs=z:=by
 unfold sgI;split<;>simp_all<;>omega
theorem vD(x:Rat):qd (decide (x.num<0)) x.num.natAbs x.den=x:=by
 unfold qd;rw[MD];exact Rat.mkRat_self x
theorem G4(a b:Bool)(n m d e:Nat):qd a n d*qd b m e=qd (decide (a≠b)) (n*m) (d*e):=by
 unfold qd;rw[Rat.mkRat_mul_mkRat,WM]
theorem Dj(x y:Rat):qd (decide (decide (x.num<0)≠decide (y.num<0))) (x.num.natAbs*y.num.natAbs) (x.den*y.den)=x*y:=by
 rw[←G4,vD,vD]
theorem WN(a b:Bool)(n m:Nat){d e:Nat}(hd:0<d)(he:0<e):qd a n d+qd b m e=mkRat (sgI a (n*e)+sgI b (m*d)) (d*e):=by
 unfold qd
 rw[Rat.mkRat_add_mkRat _ _ (by omega) (by omega)]
 congr 1
 unfold sgI
 cases a<;>cases b<;>simp[q0S,Int.neg_mul]
theorem MC(a:Bool)(n m:Nat):sgI a n+sgI a m=sgI a (n+m):=by cases a<;>simp[sgI]<;>omega
theorem S9{a b:Bool}(h:a≠b){n m:Nat}(hm:m≤n):sgI a n+sgI b m=sgI a (n-m):=by
 cases a<;>cases b<;>simp_all [sgI]<;>omega
theorem Sa{a b:Bool}(h:a≠b){n m:Nat}(hm:n≤m):sgI a n+sgI b m=sgI b (m-n):=by
 cases a<;>cases b<;>simp_all [sgI]<;>omega
theorem qz{neg:Bool}{n d p:Nat}(hn:qt n p)(hd:le2 d p)(h0:0<d):Bnd .rat (.n p) (qd neg n d):=by
 show qt _ _∧le2 _ _
 rw[jg h0,(j0 h0).2]
 exact⟨C2 hn (q1y _ _),q1H (q1y _ _) hd⟩
theorem wy{x b:Nat}(h:x≤b):qt x (Nat.log2 b+1):=q1I h Nat.lt_log2_self
theorem vf{b:Bd}{x:Rat}(h:Bnd .rat b x):(WV.c (.agg [.dt .rat b x])).ok:=Qr h
def nlw(v:Nat):Nat:=if v/2^32=0 then 1 else 2
def v5(l:List Nat)(lo v:Nat):List Nat:=if v/2^32=0 then l.set (lo+0) (v%4294967296)else(l.set (lo+0) (v%4294967296)).set (lo+1) (v/2^32)
theorem Mb(v:Nat):1≤nlw v∧nlw v≤2:=by unfold nlw;split<;>omega
theorem Mv(l:List Nat)(lo v:Nat):(v5 l lo v).length=l.length:=by unfold v5;split<;>simp
theorem TJ{l:List Nat}{lo v:Nat}(hv:v≤18446744073709551615)(h: ∀u∈l,Bnd (.nat .u32) (.n 4294967295) u): ∀u∈v5 l lo v,Bnd (.nat .u32) (.n 4294967295) u:=by
 have h1:=jQ (n:=lo+0) (Jj h) (q1N v (show 0<4294967296 by omega))
 unfold v5
 split
 ·exact fun u hu=>q1F (h1 u hu)
 ·exact fun u hu=>q1F (jQ h1 (show v/2^32<4294967296 by omega) u hu)
theorem IZ{v:Nat}(h0:0<v)(hv:v≤18446744073709551615):limbs v=if v/2^32=0 then[v%4294967296]else[v%4294967296,v/2^32]:=by
 rw[jG (by omega)]
 split
 ·rename_i h
  rw[show v/4294967296=0 by omega];rw[wx]
 ·rename_i h
  rw[jG (n:=v/4294967296) (by omega)]
  rw[show v/4294967296/4294967296=0 by omega,wx,q1M (show v/4294967296<4294967296 by omega)]
theorem OT{n:Nat}(h0:0<n)(hn:n≤18446744073709551615):(v5 (List.replicate 4 (0:Nat)) 0 n).take (nlw n)=limbs n:=by
 rw[IZ h0 hn];unfold v5 nlw
 split<;>simp[List.replicate]
theorem MI{n d:Nat}(h0:0<n)(hn:n≤18446744073709551615):(v5 (v5 (List.replicate 4 (0:Nat)) 0 n) (nlw n) d).take (nlw n)=limbs n:=by
 rw[IZ h0 hn];unfold v5 nlw
 split<;>split<;>simp[List.replicate]
theorem WO{n d:Nat}(h0:0<d)(hd:d≤18446744073709551615):((v5 (v5 (List.replicate 4 (0:Nat)) 0 n) (nlw n) d).drop (nlw n)).take (nlw n+nlw d-nlw n)=limbs d:=by
 rw[IZ h0 hd,Nat.add_sub_cancel_left];unfold v5 nlw
 split<;>split<;>simp[List.replicate]
theorem BT{d:Nat}(h0:d≠0)(h:(denL d).length=0):d=1:=by
 unfold denL at h
 split at h
 ·assumption
 ·exact absurd (nl0.1 h) h0
theorem DG{d:Nat}(h: ¬(denL d).length=0):denL d=limbs d:=by
 unfold denL at h⊢
 split
 ·rename_i e;rw[if_pos e]at h;exact absurd rfl h
 ·rfl
theorem Vw{a b p q:Nat}(ha:a≤p)(hb:b≤q):Nat.gcd a b≤max p q:=by
 rcases q1C a with e|e
 ·subst e;rw[Nat.gcd_zero_left];omega
 ·have:=Nat.gcd_le_left b e;omega
theorem z0{E:Nat}(h1:(limbs E).length=1)(h2:(limbs E).getD 0 0=1):E=1:=by
 have:=zH (x:=E) (by omega)
 rw[h1]at this
 simp only[Nat.sub_self,List.take_zero,q9,h2]at this
 omega
theorem vx{D E:Nat}(h:E=D)(hn: ¬((limbs E).length=1∧(limbs E).getD 0 0=1)):limbs E=denL D:=by
 subst h
 unfold denL
 rw[if_neg]
 intro e;subst e;exact hn ⟨Y8,by rw[Cp];rfl⟩
theorem PK{E:Nat}(h1:(limbs E).length=1):(limbs E).getD 0 0=E:=by
 have:=zH (x:=E) (by omega)
 rw[h1]at this
 simp only[Nat.sub_self,List.take_zero,q9,Nat.pow_zero,Nat.one_mul,q22]at this
 exact this.symm
def bigQ(x:Rat):Prop:=1<(limbs x.num.natAbs).length∨1<(denL x.den).length
instance(x:Rat):Decidable (bigQ x):=by unfold bigQ;infer_instance
def pn(x:Rat):Nat:=if bigQ x then 0 else x.num.natAbs
def pd(x:Rat):Nat:=if bigQ x then 0 else x.den
def pb(x:Rat):Bool:=decide (¬bigQ x)
theorem Rs{x:Nat}(h:(limbs x).length≤1):x<4294967296:=by
 have h1:=jS (limbs x) (j5 x)
 rw[qu]at h1
 exact q1J h1 (q1Y (n:=4294967296) (by omega) h)
theorem Ic(x:Rat):pn x≤4294967295:=by
 unfold pn;split
 ·omega
 ·rename_i h;unfold bigQ at h;exact q1F (Rs (by omega))
theorem T9{d:Nat}(h:(denL d).length≤1):d<4294967296:=by
 unfold denL at h;split at h
 ·omega
 ·exact Rs h
theorem Ia(x:Rat):pd x≤4294967295:=by
 unfold pd;split
 ·omega
 ·rename_i h;unfold bigQ at h;exact q1F (T9 (by omega))
theorem FY{x:Rat}(h:bigQ x):0=pn x∧0=pd x∧false=pb x:=by simp[pn,pd,pb,h]
theorem p_sm{x:Rat}(h: ¬bigQ x):x.num.natAbs=pn x∧x.den=pd x∧pb x=true:=by simp[pn,pd,pb,h]
theorem Cv{x:Rat}(h:pb x=true):pn x=x.num.natAbs∧pd x=x.den∧0<pd x:=by
 have h: ¬bigQ x:=by simpa[pb]using h
 have:=p_sm h
 have:=x.den_nz
 omega
theorem QK{d:Nat}(h:(denL d).length=1):(denL d).getD 0 0=d:=by
 have h': ¬(denL d).length=0:=by omega
 rw[DG h']at h⊢
 exact PK h
theorem ME{neg:Bool}{n d p:Nat}(hn:qt n p)(hd:qt d p):Bnd .rat (.n p) (qd neg n d):=by
 rcases q1C d with e|e
 ·subst e;rw[Ff]
  exact⟨q1Z (by decide),q1Z (by decide)⟩
 ·exact qz hn (qI hd) e
theorem Qx{g:Nat}(h0:0<g)(h:bl g≤1):g=1:=by
 have h1:=Ho g
 have h2:2^bl g≤2^1:=q1Y (by decide) h
 omega
theorem Gi{x y:Rat}{b c:Bd}(hx:Bnd .rat b x)(hy:Bnd .rat c y):Bnd .rat (.n (b.nb+c.nb)) (x*y):=by
 rw[←Dj]
 exact qz (FQ hx.rat.1 hy.rat.1) (Oi hx.rat.2 hy.rat.2) (q1V x.den_pos y.den_pos)
theorem A5{x:Rat}(h:x.num.natAbs=0):x=0:=by
 have:x.num=0:=Int.natAbs_eq_zero.1 h
 exact Rat.num_eq_zero.1 this
theorem OS(v:Int):qd (decide (v<0)) v.natAbs 1=(v:Rat):=by
 unfold qd;rw[MD];exact(Rat.mkRat_one v)
theorem O5{v:Int}{b:Nat}(h:v.natAbs≤b):Bnd .rat (.n (Nat.log2 b+1)) (v:Rat):=by
 rw[←OS];exact qz (wy h) (Nat.one_le_two_pow) (by decide)
def jv(x:Rat):Int:=if x.num.natAbs=0 then 0 else if x.num<0 then-1 else 1
theorem MG(x:Rat):(jv x).natAbs≤1:=by
 unfold jv;split
 ·decide
 ·split<;>decide
theorem II{l m:List Nat}{i:Nat}(hl:l.length=m.length)(h:l.take i=m.take i)(hi:i<l.length):(l.getD i 0=m.getD i 0→l.take (i+1)=m.take (i+1))∧(l.getD i 0≠m.getD i 0→l≠m):=by
 refine⟨fun e=>?_,fun e e2=>e (by rw[e2])⟩
 rw[q1t hi,q1t (by omega),h]
 simp only[q11,q15 hi,q15 (show i<m.length by omega),Option.getD_some]at e
 rw[e]
theorem Mw {x y : Rat} (h : y.num.natAbs ≠ 0) : qd (decide (decide (x.num < 0) ≠ decide (y.num < 0))) (x.num.natAbs * y.den) (x.den * y.num.natAbs) = x / y := by
 have e : y⁻¹ = qd (decide (y.num < 0)) y.den y.num.natAbs := by
  conv => lhs; rw [← Rat.num_divInt_den y]
  rw [Rat.inv_divInt]
  unfold qd sgI
  by_cases hn : y.num < 0
  ·simp only [hn, decide_true, if_true]
   rw [← Rat.divInt_ofNat, ← Rat.neg_divInt_neg]
   congr 1; omega
  ·simp only [hn, decide_false, q0Q, if_false]
   rw [← Rat.divInt_ofNat]
   congr 1; omega
 rw [Rat.div_def, e]
 conv => rhs; rw [← vD x]
 rw [G4]
def yQ(s:Bool)(y:Rat):Rat:=qd s y.num.natAbs y.den
theorem BK(y:Rat):yQ (decide (y.num<0)) y=y:=vD y
theorem Nl(y:Rat):yQ (!decide (y.num<0)) y= -y:=by
 have h: -y=mkRat (-y.num) y.den:=by rw[←Rat.neg_mkRat,Rat.mkRat_self]
 by_cases h0:y.num.natAbs=0
 ·have:=A5 h0
  subst this;rfl
 ·rw[h];unfold yQ qd sgI
  congr 1
  by_cases hn:y.num<0
  ·simp[hn];omega
  ·simp[hn];omega
theorem He(s:Bool)(x y:Rat):x+yQ s y=mkRat (sgI (decide (x.num<0)) (x.num.natAbs*y.den)+sgI s (y.num.natAbs*x.den)) (x.den*y.den):=by
 conv=>lhs;rw[←vD x]
 exact WN _ _ _ _ x.den_pos y.den_pos
theorem BO{s:Bool}{x y:Rat}(h:decide (x.num<0)=s):qd s (x.num.natAbs*y.den+y.num.natAbs*x.den) (x.den*y.den)=x+yQ s y:=by
 rw[He,h,MC];rfl
theorem BM{s:Bool}{x y:Rat}(h:decide (x.num<0)≠s)(hm:y.num.natAbs*x.den≤x.num.natAbs*y.den):qd (decide (x.num<0)) (x.num.natAbs*y.den-y.num.natAbs*x.den) (x.den*y.den)=x+yQ s y:=by
 rw[He,S9 h hm];rfl
theorem BN{s:Bool}{x y:Rat}(h:decide (x.num<0)≠s)(hm:x.num.natAbs*y.den≤y.num.natAbs*x.den):qd s (y.num.natAbs*x.den-x.num.natAbs*y.den) (x.den*y.den)=x+yQ s y:=by
 rw[He,Sa h hm];rfl
theorem Fg(s:Bool)(n d e:Nat)(he:0<e):qd s (n*e) (d*e)=qd s n d:=by
 rcases q1C d with h|h
 ·subst h;rw[q24,Ff,Ff]
 ·unfold qd
  rw[Rat.mkRat_eq_iff (Nat.ne_of_gt (q1V h he)) (Nat.ne_of_gt h)]
  have e1:sgI s (n*e)=sgI s n*(e:Int):=by unfold sgI;cases s<;>simp[q0S,Int.neg_mul]
  rw[e1,q0S,Int.mul_assoc,Int.mul_comm (e:Int)]
theorem UU{s:Bool}{x y:Rat}(hd:x.den=y.den)(h:decide (x.num<0)=s):qd s (x.num.natAbs+y.num.natAbs) x.den=x+yQ s y:=by
 rw[←BO h,←hd,←q1w,Fg _ _ _ _ x.den_pos]
theorem US{s:Bool}{x y:Rat}(hd:x.den=y.den)(h:decide (x.num<0)≠s)(hm:y.num.natAbs≤x.num.natAbs):qd (decide (x.num<0)) (x.num.natAbs-y.num.natAbs) x.den=x+yQ s y:=by
 rw[←BM h (by rw[hd];exact q1U _ hm),←hd,←Nat.sub_mul,Fg _ _ _ _ x.den_pos]
theorem UT{s:Bool}{x y:Rat}(hd:x.den=y.den)(h:decide (x.num<0)≠s)(hm:x.num.natAbs≤y.num.natAbs):qd s (y.num.natAbs-x.num.natAbs) x.den=x+yQ s y:=by
 rw[←BN h (by rw[hd];exact q1U _ hm),←hd,←Nat.sub_mul,Fg _ _ _ _ x.den_pos]
theorem zC{d e:Nat}(hd:d≠0)(he:e≠0)(h:denL d=denL e):d=e:=by
 by_cases h1:d=1
 ·subst h1
  have:(denL e).length=0:=by rw[←h];rfl
  exact(BT he this).symm
 ·by_cases h2:e=1
  ·subst h2
   exact BT hd (by rw[h];rfl)
  ·unfold denL at h
   rw[if_neg h1,if_neg h2]at h
   have:=congrArg q9 h
   rwa [qu,qu]at this
theorem E1{x y a b:Nat}(h:qt x a)(k:le2 y b):qt (x*y) (a+b):=by
 unfold qt le2 at*
 rw[q1X]
 exact q1I (q1T _ k) (Nat.mul_lt_mul_of_pos_right h (q1Z (by decide)))
theorem IA{s:Bool}{x y:Rat}{b c:Bd}(hx:Bnd .rat b x)(hy:Bnd .rat c y):Bnd .rat (.n (b.nb+c.nb+1)) (x+yQ s y):=by
 have h1:=E1 hx.rat.1 hy.rat.2
 have h2:=E1 hy.rat.1 hx.rat.2
 have h3:=Oi hx.rat.2 hy.rat.2
 have h4:qt (x.num.natAbs*y.den+y.num.natAbs*x.den) (b.nb+c.nb+1):=by
  rw[Nat.add_comm c.nb]at h2
  have:=FN h1 h2
  rwa [Nat.max_self]at this
 have hp:=q1V x.den_pos y.den_pos
 have h5:le2 (x.den*y.den) (b.nb+c.nb+1):=GG (Nat.le_succ _) h3
 by_cases e:decide (x.num<0)=s
 ·rw[←BO e];exact qz h4 h5 hp
 ·rcases Nat.le_total (y.num.natAbs*x.den) (x.num.natAbs*y.den)with hm|hm
  ·rw[←BM e hm];exact qz (C2 h4 (by omega)) h5 hp
  ·rw[←BN e hm];exact qz (C2 h4 (by omega)) h5 hp
def cy(a b:Nat):Nat:=(a+b)/18446744073709551616
theorem ZO{a b:Nat}(h:a≤4294967295*4294967295)(k:b≤4294967295*4294967295):cy a b≤1:=by unfold cy;omega
theorem Xu{a b:Nat}(h:cy a b=0):(a+b)%18446744073709551616=a+b:=by unfold cy at h;omega
theorem KY{x y:Rat}{b c:Bd}(hx:Bnd .rat b x)(hy:Bnd .rat c y):Bnd .rat (.n (b.nb+c.nb+1)) (x+y):=by
 have:=IA (s:=decide (y.num<0)) hx hy
 rwa [BK]at this
theorem MK{x y:Rat}{b c:Bd}(hx:Bnd .rat b x)(hy:Bnd .rat c y):Bnd .rat (.n (b.nb+c.nb+1)) (x-y):=by
 have:=IA (s:=!decide (y.num<0)) hx hy
 rwa [Nl,←Rat.sub_eq_add_neg]at this
theorem Wi{x y:Rat}{b c:Bd}(hx:Bnd .rat b x)(hy:Bnd .rat c y):Bnd .rat (.n (b.nb+c.nb)) (x/y):=by
 by_cases h:y.num.natAbs=0
 ·rw[A5 h,Rat.div_def,Rat.inv_zero,Rat.mul_zero]
  exact⟨q1Z (by decide),q1Z (by decide)⟩
 ·rw[←Mw h]
  have h2:=E1 hy.rat.1 hx.rat.2
  rw[Nat.add_comm,q1R]at h2
  exact qz (E1 hx.rat.1 hy.rat.2) (qI h2) (q1V x.den_pos (by omega))
theorem q0t{x y:Rat}(h:y.num.natAbs=0):0=x/y:=by rw[A5 h,Rat.div_def,Rat.inv_zero,Rat.mul_zero]
def quoC(y:Rat):Int:=if y.num.natAbs=0 then 3 else 0
theorem Yu(y:Rat):(quoC y).natAbs≤3:=by unfold quoC;split<;>decide
theorem MF{y:Rat}:jv y=0↔y.num.natAbs=0:=by
 unfold jv;split
 ·simp_all
 ·split<;>simp_all
def cmpQ(x y:Rat):Int:=if x<y then-1 else if x=y then 0 else 1
theorem SZ(x y:Rat):(cmpQ x y).natAbs≤1:=by
 unfold cmpQ;split
 ·decide
 ·split<;>decide
def cmpL(x y:Rat):Int:=qM (x.num.natAbs*y.den) (y.num.natAbs*x.den)
theorem If{x y:Rat}:x=y↔x.num*y.den=y.num*x.den:=by
 constructor
 ·intro h;subst h;rfl
 ·intro h
  rw[←Rat.mkRat_self x,←Rat.mkRat_self y]
  exact(Rat.mkRat_eq_iff x.den_nz y.den_nz).2 h
theorem IF(x y:Rat):cmpQ x y=if x.num*y.den<y.num*x.den then-1 else if x.num*y.den=y.num*x.den then 0 else 1:=by
 unfold cmpQ
 by_cases h:x<y
 ·rw[if_pos h,if_pos ((Rat.lt_iff x y).1 h)]
 ·rw[if_neg h,if_neg (mt (Rat.lt_iff x y).2 h)]
  by_cases e:x=y
  ·rw[if_pos e,if_pos (If.1 e)]
  ·rw[if_neg e,if_neg (mt If.2 e)]
theorem Sb(z:Int){d:Nat}(hd:0<d):(z<0→z*(d:Int)<0)∧(z=0→z*(d:Int)=0)∧(0<z→0<z*(d:Int)):=
 ⟨fun h=>Int.mul_neg_of_neg_of_pos h (by omega),fun h=>by rw[h,Int.zero_mul],fun h=>Int.mul_pos h (by omega)⟩
theorem Ae(x:Rat):(x.num<0∧jv x= -1)∨(x.num=0∧jv x=0)∨(0<x.num∧jv x=1):=by
 unfold jv
 by_cases h:x.num.natAbs=0
 ·rw[if_pos h];omega
 ·rw[if_neg h]
  by_cases h2:x.num<0
  ·rw[if_pos h2];omega
  ·rw[if_neg h2];omega
theorem NO{x y:Rat}(h:jv x≠jv y):(jv x<jv y→cmpQ x y= -1)∧(¬jv x<jv y→cmpQ x y=1):=by
 have h1:=Sb x.num y.den_pos
 have h2:=Sb y.num x.den_pos
 have c1:=Ae x
 have c2:=Ae y
 rw[IF]
 generalize x.num*(y.den:Int)=A at*
 generalize y.num*(x.den:Int)=B at*
 refine⟨fun hl=>?_,fun hl=>?_⟩
 ·rw[if_pos (by omega)]
 ·rw[if_neg (by omega),if_neg (by omega)]
theorem Vf{x y:Rat}(hs:jv x=jv y)(h: ¬x.num<0):cmpQ x y=cmpL x y:=by
 have c1:=Ae x
 have c2:=Ae y
 have e1:x.num*(y.den:Int)=((x.num.natAbs*y.den:Nat):Int):=by rw[q0S,Int.natAbs_of_nonneg (by omega)]
 have e2:y.num*(x.den:Int)=((y.num.natAbs*x.den:Nat):Int):=by rw[q0S,Int.natAbs_of_nonneg (by omega)]
 rw[IF,e1,e2]
 unfold cmpL qM
 generalize x.num.natAbs*y.den=A
 generalize y.num.natAbs*x.den=B
 by_cases g:A<B
 ·rw[if_pos (by omega),if_pos g]
 ·rw[if_neg (by omega),if_neg g]
  by_cases g2:A=B
  ·rw[if_pos (by omega),if_pos g2]
  ·rw[if_neg (by omega),if_neg g2]
theorem Ve{x y:Rat}(hs:jv x=jv y)(h:x.num<0):cmpQ x y= -cmpL x y:=by
 have c1:=Ae x
 have c2:=Ae y
 have e1:x.num*(y.den:Int)= -((x.num.natAbs*y.den:Nat):Int):=by
  rw[q0S,←Int.neg_mul];congr 1;omega
 have e2:y.num*(x.den:Int)= -((y.num.natAbs*x.den:Nat):Int):=by
  rw[q0S,←Int.neg_mul];congr 1;omega
 rw[IF,e1,e2]
 unfold cmpL qM
 generalize x.num.natAbs*y.den=A
 generalize y.num.natAbs*x.den=B
 by_cases g:A<B
 ·rw[if_neg (by omega),if_neg (by omega),if_pos g];rfl
 ·rw[if_neg g]
  by_cases g2:A=B
  ·rw[if_neg (by omega),if_pos (by omega),if_pos g2];rfl
  ·rw[if_pos (by omega),if_neg g2]
theorem SY{a b c:Nat}(h:0<c):qM (a*c) (b*c)=qM a b:=by
 unfold qM
 simp only[Nat.mul_lt_mul_right h,Nat.mul_left_inj (Nat.ne_of_gt h)]
theorem DE{x y:Rat}(h:x.den=y.den):qM x.num.natAbs y.num.natAbs=cmpL x y:=by
 unfold cmpL;rw[←h,SY x.den_pos]
theorem QE{x y:Rat}(hx:pn x=x.num.natAbs∧pd x=x.den∧0<pd x)(hy:pn y=y.num.natAbs∧pd y=y.den∧0<pd y):cmpL x y=qM (pn x*pd y) (pn y*pd x):=by
 unfold cmpL;rw[hx.1,hx.2.1,hy.1,hy.2.1]
theorem Rl{a b:Nat}(h:limbs a=limbs b):a=b:=by
 have:=congrArg q9 h
 rwa [qu,qu]at this
theorem Eg(x y:Rat):x=y↔decide (x.num<0)=decide (y.num<0)∧limbs x.num.natAbs=limbs y.num.natAbs∧denL x.den=denL y.den:=by
 constructor
 ·intro h;subst h;exact⟨rfl,rfl,rfl⟩
 ·rintro⟨h1,h2,h3⟩
  rw[←vD x,←vD y,h1,Rl h2,zC x.den_nz y.den_nz h3]
theorem q0x{x y:Rat}(h: ¬decide (x.num<0)=decide (y.num<0)):false=decide (x=y):=(decide_eq_false (fun e=>h ((Eg x y).1 e).1)).symm
theorem q0y{x y:Rat}(h: ¬decide (limbs x.num.natAbs=limbs y.num.natAbs)=true):false=decide (x=y):=(decide_eq_false (fun e=>h (decide_eq_true ((Eg x y).1 e).2.1))).symm
theorem q0z{x y:Rat}(h1:decide (x.num<0)=decide (y.num<0))(h2:decide (limbs x.num.natAbs=limbs y.num.natAbs)=true):decide (denL x.den=denL y.den)=decide (x=y):=by
 rw[decide_eq_decide,Eg]
 exact⟨fun h=>⟨h1,of_decide_eq_true h2,h⟩,fun h=>h.2.2⟩
def smlV(x:Rat):Int:=if x.den=1∧x.num.natAbs<4294967296 then x.num else 0
def smlB(x:Rat):Bool:=decide (x.den=1∧x.num.natAbs<268435456)
theorem YZ(x:Rat):(smlV x).natAbs≤4294967296:=by
 unfold smlV
 split
 ·rename_i h;exact q1E h.2
 ·decide
theorem GI{n:Nat}(h:0<n):0<(limbs n).length:=by rw[jG (by omega)];simp
theorem Rn{n:Nat}(h:n<4294967296):(limbs n).length≤1:=by
 by_cases h0:n=0
 ·subst h0;decide
 ·rw[jG (by omega),show n/4294967296=0 by omega,show limbs 0=[]from by decide]
  exact q1G 1
theorem JQ{n:Nat}(h:(limbs n).length≤1):n<4294967296∧(limbs n).getD 0 0=n:=by
 by_cases h0:n=0
 ·subst h0;exact⟨by decide,by decide⟩
 ·have hp:0<n:=by omega
  rw[jG (by omega)]at h⊢
  have h1:(limbs (n/4294967296)).length=0:=by simp at h;simp[h]
  have h2:n/4294967296=0:=by
   by_cases h3:0<n/4294967296
   ·have:=GI h3;omega
   ·omega
  refine⟨by omega,?_⟩
  simp;omega
theorem IG{x:Rat}(h: ¬0<(denL x.den).length):x.den=1:=by
 unfold denL at h
 split at h
 ·assumption
 ·exact absurd (GI (q1W x.den_nz)) h
theorem Ta{x:Rat}(h:0<(denL x.den).length):x.den≠1:=fun e=>by rw[e]at h;simp[denL]at h
theorem sm_1{x:Rat}(h:0<(denL x.den).length):0=smlV x∧false=smlB x:=by
 have:=Ta h
 exact⟨(if_neg fun e=>this e.1).symm,(decide_eq_false fun e=>this e.1).symm⟩
theorem sm_2{x:Rat}(h:1<(limbs x.num.natAbs).length):0=smlV x∧false=smlB x:=by
 have: ¬x.num.natAbs<4294967296:=fun e=>by have:=Rn e;omega
 exact⟨(if_neg fun e=>this e.2).symm,(decide_eq_false fun e=>this (by omega)).symm⟩
theorem sm_3{x:Rat}(h: ¬0<(denL x.den).length)(h0:(limbs x.num.natAbs).length=0):0=smlV x∧true=smlB x:=by
 have e0:x.num.natAbs=0:=by
  by_cases h1:0<x.num.natAbs
  ·have:=GI h1;omega
  ·omega
 have e1:x.num=0:=by omega
 have:=IG h
 refine⟨?_,(decide_eq_true ⟨this,by omega⟩).symm⟩
 unfold smlV
 rw[if_pos ⟨this,by omega⟩,e1]
theorem sm_4{x:Rat}(h: ¬0<(denL x.den).length)(h1: ¬1<(limbs x.num.natAbs).length)(h2:x.num<0): -(((limbs x.num.natAbs).getD 0 0:Nat):Int)=smlV x∧decide ((limbs x.num.natAbs).getD 0 0<268435456)=smlB x:=by
 obtain⟨e1,e2⟩:=JQ (n:=x.num.natAbs) (by omega)
 have:=IG h
 rw[e2]
 refine⟨?_,?_⟩
 ·unfold smlV;rw[if_pos ⟨this,e1⟩];omega
 ·unfold smlB;simp[this]
theorem sm_5{x:Rat}(h: ¬0<(denL x.den).length)(h1: ¬1<(limbs x.num.natAbs).length)(h2: ¬x.num<0):(((limbs x.num.natAbs).getD 0 0:Nat):Int)=smlV x∧decide ((limbs x.num.natAbs).getD 0 0<268435456)=smlB x:=by
 obtain⟨e1,e2⟩:=JQ (n:=x.num.natAbs) (by omega)
 have:=IG h
 rw[e2]
 refine⟨?_,?_⟩
 ·unfold smlV;rw[if_pos ⟨this,e1⟩];omega
 ·unfold smlB;simp[this]
def absQ(x:Rat):Rat:=if x.num<0 then-x else x
theorem KX(x:Rat):(absQ x).num=(x.num.natAbs:Int):=by
 unfold absQ
 split
 ·rw[Rat.neg_num];omega
 ·omega
theorem KW(x:Rat):false=decide ((absQ x).num<0):=by
 symm;apply decide_eq_false;rw[KX];omega
theorem Gn(x:Rat):x.num.natAbs=(absQ x).num.natAbs:=by rw[KX];omega
theorem Iz(x:Rat):(absQ x).den=x.den:=by
 unfold absQ
 split
 ·rw[Rat.neg_den]
 ·rfl
theorem SO(x:Rat):denL x.den=denL (absQ x).den:=by rw[Iz]
theorem Gp{b:Bd}{x:Rat}(h:Bnd .rat b x):Bnd .rat b (absQ x):=by
 cases b with
 |n m=>exact⟨by rw[←Gn];exact h.1,by rw[Iz];exact h.2⟩
 |_=>exact h.elim
def q2c:Rat:=⟨1,2,by decide,by decide⟩
theorem q2d:Bnd .rat (.n 2) q2c:=⟨by show 1<2^2;decide,by show 2≤2^2;decide⟩
theorem q2g:[2]=denL q2c.den:=by show[2]=denL 2;decide
theorem q2f{b c:Bd}{x y:Rat}(hx:Bnd .rat b x)(hy:Bnd .rat c y):Bnd .rat (.n (b.nb+c.nb+3)) ((x+y)*q2c):=Gi (KY hx hy) q2d
abbrev Z3:FI:=⟨124,[(.sl (.nat .u32))],[(.s 1099511627776 (.n 4294967295))],fun z=>(fun(ls:List Nat)=>[∀u∈ls,u<4294967296]) z,fun b z=>(fun(ls:List Nat)=> .c (.one (.dt .mag (.n (32*(b0 b).len)) (q9 ls)))) z⟩
theorem Sm:Z3.OK Tryz.prog:=jp hmix 21 Tryz.func124 rfl rfl (by decide) [] (fun(ls:List Nat) b hx hp=>qn (E2 (hp _ (q1j)) (Bnds.h1 hx).sl.1) rfl) (fun(ls:List Nat) hx hp=>by
 have hl0:ls.length≤1099511627776:=hx.1
 have hp0: ∀u∈ls,u<4294967296:=hp _ (q1j)
 refine⟨.loop [.s 3 (.nat .i64) (.n 1099511627776)] (fun(k:Nat)=>k≤ls.length∧q9 (ls.take k)=q9 ls) (fun(k:Nat)=>k) (fun(k:Nat)=> .cond (.h 2 5 (.i .sub) (.cond (.h 3 1 (.i .sub) (.nil)) (.h 4 2 (.mag (q9 ls) 70368744177664) (.nil)))) (.h 4 2 (.mag (q9 ls) 70368744177664) (.nil))),kcast (by kernel_rfl) (I (⟨q1G _,by rw[q1r]⟩:ls.length≤ls.length∧q9 (ls.take ls.length)=q9 ls) (fun(k:Nat)(hb1:HB [.s 3 (.nat .i64) (.n 1099511627776)] k)(hC:k≤ls.length∧q9 (ls.take k)=q9 ls)=>have hv6:=(show k≤1099511627776 from hb1);have hk:=hC.1;Sp (0<k) (fun h2=>I (?_:1≤k) (I (?_:k-1<ls.length) (Sp (ls.getD (k-1) 0=0) (fun h3=>I (?_:1≤k) (q0N (⟨by omega,Fj hC.1 (by omega) hC.2 (by omega)⟩:k-1≤ls.length∧q9 (ls.take (k-1))=q9 ls) (?_:k-1<k))) (fun h4=>I (?_:k≤ls.length) (I (wm hp0 hC.1 hC.2 (by omega):ls.take k=limbs (q9 ls)) (I (qc (by decide) (E2 hp0 hl0):qt (q9 ls) 70368744177664) ((Eq.refl (q9 ls))))))))) (fun h5=>I (?_:k≤ls.length) (I (wm hp0 hC.1 hC.2 (by omega):ls.take k=limbs (q9 ls)) (I (qc (by decide) (E2 hp0 hl0):qt (q9 ls) 70368744177664) ((Eq.refl (q9 ls))))))))⟩<;>omega)
abbrev C9:Ctr Tryz.prog:=FI.c Sm
abbrev Sl(b:List Bd)(ls:List Nat):WV:= .c (.one (.dt .mag (.n (32*(b0 b).len)) (q9 ls)))
theorem Ua(ls:List Nat)(hx:Bnds [(.sl (.nat .u32))] [(.s 1099511627776 (.n 4294967295))] ls)(hp: ∀c0∈([∀u∈ls,u<4294967296]:List Prop),c0):Sig Tryz.prog 124 (argsE [(.sl (.nat .u32))] ls) (Sl [(.s 1099511627776 (.n 4294967295))] ls).exp:=Sm.sig ls hx hp
theorem U9(b:List Bd)(x:Nat)(hx:Bnds [.mag] b x)(hp: ∀p∈([]:List Prop),p):(WV.c (.one (.dt .mag (b0 b) x))).ok:=qn (Bnds.h1 hx) rfl
theorem Kh(x:Nat)(hx:Bnds [.mag] [.n 1099511627776] x)(hp: ∀p∈([]:List Prop),p):Sig Tryz.prog 124 (argsE [.mag] x) (WV.c (.one (.dt .mag (.n 1099511627776) x))).exp:=by
 have h:=Ua (limbs x) ⟨q1H (qg (q1E hx)) (by decide),(Bnd.limbs hx).2⟩ (by intro p hp;simp only[q1h,q1p,or_false]at hp;subst hp;exact j5 x)
 unfold Sl at h;rw[qu,←Ey]at h;exact h
def BI:Ctr Tryz.prog:=⟨124,[.mag],[.n 1099511627776],fun z=>[],fun b z=> .c (.one (.dt .mag (b0 b) z)),fun z hx hp=>Kh z hx hp,fun _ _=>rfl,fun b z hx hp=>U9 b z hx hp⟩
abbrev ZH:FI:=⟨131,[.mag,.mag],[(.n 1099511627776),(.n 1099511627776)],fun _=>[],fun b z=>(fun(x:Nat)(y:Nat)=> .c (.one (.dt .mag (.n (max (b0 b).nb (b1 b).nb+1)) (x+y)))) z.1 z.2⟩
theorem ZI:ZH.OK Tryz.prog:=jp hmix 58 Tryz.func131 rfl rfl (by decide) [] (fun(x:Nat)(y:Nat) b hx hp=>qn (FN (Bnds.h2 hx).1.mag (Bnds.h2 hx).2.mag) rfl) (fun(x:Nat)(y:Nat) hx hp=>by
 have hx0:qt x 1099511627776:=hx.1
 have hl0:(limbs x).length≤34359738369:=qg (q1E hx0)
 have hx1:qt y 1099511627776:=hx.2
 have hl1:(limbs y).length≤34359738369:=qg (q1E hx1)
 refine⟨.cond (.h 3 3 (.mk (.arr (.nat .u32) (.n 4294967295))) (.loop [.s 22 (.nat .i64) (.n 34359738369),.s 6 (.nat .u64) (.n 1),.a 19 (.nat .u32) (.n 4294967295)] (fun((i,c,out):Nat×Nat×List Nat)=>AddI y x i c out) (fun((i,c,out):Nat×Nat×List Nat)=>(limbs y).length-i) (fun((i,c,out):Nat×Nat×List Nat)=> .cond (.nil) (.pre 15 (.frz 19 true [5]) (.h 15 1 (.c C9) (.nil)))))) (.h 3 3 (.mk (.arr (.nat .u32) (.n 4294967295))) (.loop [.s 22 (.nat .i64) (.n 34359738369),.s 6 (.nat .u64) (.n 1),.a 19 (.nat .u32) (.n 4294967295)] (fun((i,c,out):Nat×Nat×List Nat)=>AddI x y i c out) (fun((i,c,out):Nat×Nat×List Nat)=>(limbs x).length-i) (fun((i,c,out):Nat×Nat×List Nat)=> .cond (.nil) (.pre 15 (.frz 19 true [5]) (.h 15 1 (.c C9) (.nil)))))),kcast (by kernel_rfl) (Sp ((limbs x).length<(limbs y).length) (fun h1=>I (?_:((limbs y).length)+1=((limbs y).length)+1) (I (AddI.start y x:AddI y x 0 0 (List.replicate (((limbs y).length)+1) (0:Nat))) (fun(i:Nat)(c:Nat)(out:List Nat)(hb2:HB [.s 22 (.nat .i64) (.n 34359738369),.s 6 (.nat .u64) (.n 1),.a 19 (.nat .u32) (.n 4294967295)] (i,c,out))(hI:AddI y x i c out)=>have hv7:=(show i≤34359738369 from hb2.1);have hv8:=(show c≤1 from hb2.2.1);have hv9:=(show∀u∈out,u≤4294967295 from hb2.2.2);have hIl:=hI.hl;have hIi:=hI.hi;have hIc:=hI.hc;Sp (i<(limbs y).length) (fun h3=>I (?_:i<(limbs y).length) (Sp (i<(limbs x).length) (fun h4=>I (?_:i<(limbs x).length) (I (?_:i<((limbs y).length)+1) (I (?_:i<out.length) (I (show(i+1)≤34359738369 by omega:Bnd (.nat .i64) (.n 34359738369) (i+1)) (q0N (hI.step (by omega) (by first|rfl|rw[qy (l:=limbs x) (by omega),q1x]):AddI y x (i+1) (((c+((limbs y).getD i 0))+((limbs x).getD i 0))/2^32) (out.set i (((c+((limbs y).getD i 0))+((limbs x).getD i 0))%4294967296))) (?_:(limbs y).length-(i+1)<(limbs y).length-i)))))) (fun h5=>I (?_:i<((limbs y).length)+1) (I (?_:i<out.length) (I (show(i+1)≤34359738369 by omega:Bnd (.nat .i64) (.n 34359738369) (i+1)) (q0N (hI.step (by omega) (by first|rfl|rw[qy (l:=limbs x) (by omega),q1x]):AddI y x (i+1) ((c+((limbs y).getD i 0))/2^32) (out.set i ((c+((limbs y).getD i 0))%4294967296))) (?_:(limbs y).length-(i+1)<(limbs y).length-i))))))) (fun h6=>have hF:=hI.fin' (by omega) (by omega);I (?_:(limbs y).length<((limbs y).length)+1) (I (?_:(limbs y).length<out.length) (I (Hv (by omega):((limbs y).length)+1=(out.set ((limbs y).length) c).length) (I (hF.2: ∀u∈out.set ((limbs y).length) c,u<4294967296) ((by rw[hF.1]<;>omega:q9 (out.set ((limbs y).length) c)=x+y))))))))) (fun h10=>I (?_:((limbs x).length)+1=((limbs x).length)+1) (I (AddI.start x y:AddI x y 0 0 (List.replicate (((limbs x).length)+1) (0:Nat))) (fun(i:Nat)(c:Nat)(out:List Nat)(hb11:HB [.s 22 (.nat .i64) (.n 34359738369),.s 6 (.nat .u64) (.n 1),.a 19 (.nat .u32) (.n 4294967295)] (i,c,out))(hI:AddI x y i c out)=>have hv16:=(show i≤34359738369 from hb11.1);have hv17:=(show c≤1 from hb11.2.1);have hv18:=(show∀u∈out,u≤4294967295 from hb11.2.2);have hIl:=hI.hl;have hIi:=hI.hi;have hIc:=hI.hc;Sp (i<(limbs x).length) (fun h12=>I (?_:i<(limbs x).length) (Sp (i<(limbs y).length) (fun h13=>I (?_:i<(limbs y).length) (I (?_:i<((limbs x).length)+1) (I (?_:i<out.length) (I (show(i+1)≤34359738369 by omega:Bnd (.nat .i64) (.n 34359738369) (i+1)) (q0N (hI.step (by omega) (by first|rfl|rw[qy (l:=limbs y) (by omega),q1x]):AddI x y (i+1) (((c+((limbs x).getD i 0))+((limbs y).getD i 0))/2^32) (out.set i (((c+((limbs x).getD i 0))+((limbs y).getD i 0))%4294967296))) (?_:(limbs x).length-(i+1)<(limbs x).length-i)))))) (fun h14=>I (?_:i<((limbs x).length)+1) (I (?_:i<out.length) (I (show(i+1)≤34359738369 by omega:Bnd (.nat .i64) (.n 34359738369) (i+1)) (q0N (hI.step (by omega) (by first|rfl|rw[qy (l:=limbs y) (by omega),q1x]):AddI x y (i+1) ((c+((limbs x).getD i 0))/2^32) (out.set i ((c+((limbs x).getD i 0))%4294967296))) (?_:(limbs x).length-(i+1)<(limbs x).length-i))))))) (fun h15=>have hF:=hI.fin' (by omega) (by omega);I (?_:(limbs x).length<((limbs x).length)+1) (I (?_:(limbs x).length<out.length) (I (Hv (by omega):((limbs x).length)+1=(out.set ((limbs x).length) c).length) (I (hF.2: ∀u∈out.set ((limbs x).length) c,u<4294967296) ((by rw[hF.1]<;>omega:q9 (out.set ((limbs x).length) c)=x+y))))))))))⟩<;>omega)
abbrev add_c:Ctr Tryz.prog:=FI.c ZI
abbrev mul_i:FI:=⟨100,[.mag,.mag],[(.n 1099511627776),(.n 1099511627776)],fun _=>[],fun b z=>(fun(x:Nat)(y:Nat)=> .c (.one (.dt .mag (.n ((b0 b).nb+(b1 b).nb)) (x*y)))) z.1 z.2⟩
theorem q02:mul_i.OK Tryz.prog:=jp hmix 69 Tryz.func100 rfl rfl (by decide) [] (fun(x:Nat)(y:Nat) b hx hp=>qn (FQ (Bnds.h2 hx).1.mag (Bnds.h2 hx).2.mag) rfl) (fun(x:Nat)(y:Nat) hx hp=>by
 have hx0:qt x 1099511627776:=hx.1
 have hl0:(limbs x).length≤34359738369:=qg (q1E hx0)
 have hx1:qt y 1099511627776:=hx.2
 have hl1:(limbs y).length≤34359738369:=qg (q1E hx1)
 refine⟨.h 1 5 (.mk (.arr (.nat .u32) (.n 4294967295))) (.loop [.s 19 (.nat .i64) (.n 34359738369),.a 16 (.nat .u32) (.n 4294967295)] (fun((i,out):Nat×List Nat)=>MulI x y i out) (fun((i,out):Nat×List Nat)=>(limbs x).length-i) (fun((i,out):Nat×List Nat)=> .cond (.cond (.nil) (.loop [.s 28 (.nat .i64) (.n 34359738369),.s 8 (.nat .u64) (.n 4294967295),.a 16 (.nat .u32) (.n 4294967295)] (fun((j,c,out2):Nat×Nat×List Nat)=>MulJ x y i ((limbs x).getD i 0) j c out out2) (fun((j,c,out2):Nat×Nat×List Nat)=>(limbs y).length-j) (fun((j,c,out2):Nat×Nat×List Nat)=> .nil))) (.pre 16 (.frz 16 true [5]) (.h 16 1 (.c C9) (.nil))))),kcast (by kernel_rfl) (I (?_:((limbs x).length)+((limbs y).length)=((limbs x).length)+((limbs y).length)) (I (MulI.start x y:MulI x y 0 (List.replicate (((limbs x).length)+((limbs y).length)) (0:Nat))) (fun(i:Nat)(out:List Nat)(hb1:HB [.s 19 (.nat .i64) (.n 34359738369),.a 16 (.nat .u32) (.n 4294967295)] (i,out))(hM:MulI x y i out)=>have hv12:=(show i≤34359738369 from hb1.1);have hv13:=(show∀u∈out,u≤4294967295 from hb1.2);have hMl:=hM.hl;have hMi:=hM.hi;Sp (i<(limbs x).length) (fun h2=>I (?_:i<(limbs x).length) (Sp ((limbs x).getD i 0=0) (fun h3=>I (show(i+1)≤34359738369 by omega:Bnd (.nat .i64) (.n 34359738369) (i+1)) (q0N (hM.skip (by omega) (by omega):MulI x y (i+1) out) (?_:(limbs x).length-(i+1)<(limbs x).length-i))) (fun h4=>I (MulJ.start hM:MulJ x y i ((limbs x).getD i 0) 0 0 out out) (fun(j:Nat)(c:Nat)(out2:List Nat)(hb5:HB [.s 28 (.nat .i64) (.n 34359738369),.s 8 (.nat .u64) (.n 4294967295),.a 16 (.nat .u32) (.n 4294967295)] (j,c,out2))(hJ:MulJ x y i ((limbs x).getD i 0) j c out out2)=>have hv8:=(show j≤34359738369 from hb5.1);have hv9:=(show c≤4294967295 from hb5.2.1);have hv10:=(show∀u∈out2,u≤4294967295 from hb5.2.2);have hJl:=hJ.hl;have hJj:=hJ.hj;have hJc:=hJ.hc;Sp (j<(limbs y).length) (fun h6=>I (?_:j<(limbs y).length) (I (?_:i+j<((limbs x).length)+((limbs y).length)) (I (?_:i+j<out2.length) (I (?_:i+j<((limbs x).length)+((limbs y).length)) (I (?_:i+j<out2.length) (I (show(j+1)≤34359738369 by omega:Bnd (.nat .i64) (.n 34359738369) (j+1)) (q0N ((hJ.step (by omega) (by omega) (qb x i) rfl).1:MulJ x y i ((limbs x).getD i 0) (j+1) ((c+((((limbs x).getD i 0)*((limbs y).getD j 0))+(out2.getD (i+j) 0)))/2^32) out (out2.set (i+j) ((c+((((limbs x).getD i 0)*((limbs y).getD j 0))+(out2.getD (i+j) 0)))%4294967296))) (?_:(limbs y).length-(j+1)<(limbs y).length-j)))))))) (fun h7=>I (?_:i+((limbs y).length)<((limbs x).length)+((limbs y).length)) (I (?_:i+((limbs y).length)<out2.length) (I (show(i+1)≤34359738369 by omega:Bnd (.nat .i64) (.n 34359738369) (i+1)) (q0N (MulJ.fin' hM (by omega) hJ (by omega):MulI x y (i+1) (out2.set (i+((limbs y).length)) c)) (?_:(limbs x).length-(i+1)<(limbs x).length-i))))))))) (fun h11=>I (?_:((limbs x).length)+((limbs y).length)=out.length) (have hF:=hM.fin' (by omega);I (hF.2: ∀u∈out,u<4294967296) ((hF.1:q9 out=x*y)))))))⟩<;>omega)
abbrev mul_c:Ctr Tryz.prog:=FI.c q02
abbrev ZK:FI:=⟨119,[.mag,.mag],[(.n 1099511627776),(.n 1099511627776)],fun _=>[],fun b z=>(fun(x:Nat)(y:Nat)=> .c (.one (.dt (.int .i64) (.n 1) (qM x y)))) z.1 z.2⟩
theorem ZM:ZK.OK Tryz.prog:=jp hmix 45 Tryz.func119 rfl rfl (by decide) [(124,.c BI)] (fun(x:Nat)(y:Nat) b hx hp=>qn (NN x y) rfl) (fun(x:Nat)(y:Nat) hx hp=>by
 have hx0:qt x 1099511627776:=hx.1
 have hl0:(limbs x).length≤34359738369:=qg (q1E hx0)
 have hx1:qt y 1099511627776:=hx.2
 have hl1:(limbs y).length≤34359738369:=qg (q1E hx1)
 refine⟨.cond (.nil) (.loop [.s 5 (.int .i64) (.n 68719476736)] (fun(z:Int)=>CmpI x y z) (fun(z:Int)=>(z+1).toNat) (fun(z:Int)=> .cond (.h 9 2 (.ix z.toNat) (.h 9 6 (.ix z.toNat) (.cond (.h 10 2 (.ix z.toNat) (.h 10 6 (.ix z.toNat) (.nil))) (.nil)))) (.nil))),kcast (by kernel_rfl) (Sp ((limbs x).length≠(limbs y).length) (fun h1=>Sp ((limbs x).length<(limbs y).length) (fun h2=>(?_:(-1)=qM x y)) (fun h3=>(?_:1=qM x y))) (fun h4=>I (CmpI.start (by omega):CmpI x y ((((limbs x).length:Nat):Int) -1)) (fun(z:Int)(hb5:HB [.s 5 (.int .i64) (.n 68719476736)] z)(hC:CmpI x y z)=>have hv12:=(show Int.natAbs z≤68719476736 from hb5);have hC0:=hC.h0;have hC1:=hC.h1;Sp (0≤z) (fun h6=>I (?_:z=((z.toNat:Nat):Int)) (I (?_:z.toNat<(limbs x).length) (I (?_:z=((z.toNat:Nat):Int)) (I (?_:z.toNat<(limbs y).length) (Sp ((limbs x).getD z.toNat 0≠(limbs y).getD z.toNat 0) (fun h7=>I (?_:z=((z.toNat:Nat):Int)) (I (?_:z.toNat<(limbs x).length) (I (?_:z=((z.toNat:Nat):Int)) (I (?_:z.toNat<(limbs y).length) (Sp ((limbs x).getD z.toNat 0<(limbs y).getD z.toNat 0) (fun h8=>(?_:(-1)=qM x y)) (fun h9=>(?_:1=qM x y))))))) (fun h10=>I (show Int.natAbs (z-1)≤68719476736 by omega:Bnd (.int .i64) (.n 68719476736) (z-1)) (q0N ((hC.at (by omega) (by omega)).1 (by omega):CmpI x y (z-1)) (?_:((z-1)+1).toNat<(z+1).toNat)))))))) (fun h11=>((hC.fin (by omega)).symm:0=qM x y)))))⟩<;>first|omega|(first|exact(Ll (by omega)).symm|exact((hC.at (by omega) (by omega)).2.1 (by omega)).symm)|(first|exact(Lm (by omega)).symm|exact((hC.at (by omega) (by omega)).2.2 (by omega)).symm))
abbrev Pf:Ctr Tryz.prog:=FI.c ZM
abbrev q0C:FI:=⟨156,[.mag,.mag],[(.n 1099511627776),(.n 1099511627776)],fun _=>[],fun b z=>(fun(x:Nat)(y:Nat)=> .tup [.one (.dt .mag (b0 b) (x-y)),.one (.dt (.int .i64) (.n 7) (subC x y))]) z.1 z.2⟩
theorem q0D:q0C.OK Tryz.prog:=jp hmix 54 Tryz.func156 rfl rfl (by decide) [(119,.c Pf),(124,.c BI)] (fun(x:Nat)(y:Nat) b hx hp=>j8 (qn (Bnd.magLe (Bnds.h2 hx).1 (Nat.sub_le _ _)) rfl) (j8 (qn (Si x y) rfl) z5)) (fun(x:Nat)(y:Nat) hx hp=>by
 have hx0:qt x 1099511627776:=hx.1
 have hl0:(limbs x).length≤34359738369:=qg (q1E hx0)
 have hx1:qt y 1099511627776:=hx.2
 have hl1:(limbs y).length≤34359738369:=qg (q1E hx1)
 refine⟨.cond (.nil) (.h 4 2 (.mk (.arr (.nat .u32) (.n 4294967295))) (.loop [.s 23 (.nat .i64) (.n 34359738369),.s 7 (.nat .u64) (.n 1),.a 20 (.nat .u32) (.n 4294967295)] (fun((i,c,out):Nat×Nat×List Nat)=>SubI x y i c out) (fun((i,c,out):Nat×Nat×List Nat)=>(limbs x).length-i) (fun((i,c,out):Nat×Nat×List Nat)=> .cond (.cond (.h 12 3 (.i (.n (dif ((limbs x).getD i 0) (c+((limbs y).getD i 0))) 18446744073709551615)) (.nil)) (.h 12 3 (.i (.n (dif ((limbs x).getD i 0) c) 18446744073709551615)) (.nil))) (.pre 16 (.frz 20 true [6]) (.h 16 1 (.c C9) (.nil)))))),kcast (by kernel_rfl) (Sp (qM x y<0) (fun h1=>q0N (by have:=jL.1 (show qM x y<0 by assumption);omega:0=x-y) ((if_pos (jL.1 (by assumption))).symm:7=subC x y)) (fun h2=>have hp0:=(show y≤x from Nat.le_of_not_lt (mt jL.2 (by assumption)));have hlen:=vY hp0;I (?_:(limbs x).length=(limbs x).length) (I (SubI.start x y:SubI x y 0 0 (List.replicate ((limbs x).length) (0:Nat))) (fun(i:Nat)(c:Nat)(out:List Nat)(hb3:HB [.s 23 (.nat .i64) (.n 34359738369),.s 7 (.nat .u64) (.n 1),.a 20 (.nat .u32) (.n 4294967295)] (i,c,out))(hI:SubI x y i c out)=>have hv8:=(show i≤34359738369 from hb3.1);have hv9:=(show c≤1 from hb3.2.1);have hv10:=(show∀u∈out,u≤4294967295 from hb3.2.2);have hIl:=hI.hl;have hIi:=hI.hi;have hIc:=hI.hc;have hg1:=qb x i;have hg2:=qb y i;Sp (i<(limbs x).length) (fun h4=>I (?_:i<(limbs x).length) (Sp (i<(limbs y).length) (fun h5=>I (?_:i<(limbs y).length) (I (z7 (by first|omega|exact Nat.lt_succ_of_le (vE _ _)) (by omega):qJ .sub .u64 (((limbs x).getD i 0:Nat):Int) ((c+((limbs y).getD i 0):Nat):Int) ((dif ((limbs x).getD i 0) (c+((limbs y).getD i 0)):Nat):Int)) (I (vE _ _:dif ((limbs x).getD i 0) (c+((limbs y).getD i 0))≤18446744073709551615) (I (?_:i<(limbs x).length) (I (?_:i<out.length) (I (show(i+1)≤34359738369 by omega:Bnd (.nat .i64) (.n 34359738369) (i+1)) (q0N (hI.step (by omega) (by first|rfl|rw[qy (l:=limbs y) (by omega),q1x]):SubI x y (i+1) ((dif ((limbs x).getD i 0) (c+((limbs y).getD i 0)))/2^63) (out.set i ((dif ((limbs x).getD i 0) (c+((limbs y).getD i 0)))%4294967296))) (?_:(limbs x).length-(i+1)<(limbs x).length-i)))))))) (fun h6=>I (z7 (by first|omega|exact Nat.lt_succ_of_le (vE _ _)) (by omega):qJ .sub .u64 (((limbs x).getD i 0:Nat):Int) (c:Int) ((dif ((limbs x).getD i 0) c:Nat):Int)) (I (vE _ _:dif ((limbs x).getD i 0) c≤18446744073709551615) (I (?_:i<(limbs x).length) (I (?_:i<out.length) (I (show(i+1)≤34359738369 by omega:Bnd (.nat .i64) (.n 34359738369) (i+1)) (q0N (hI.step (by omega) (by first|rfl|rw[qy (l:=limbs y) (by omega),q1x]):SubI x y (i+1) ((dif ((limbs x).getD i 0) c)/2^63) (out.set i ((dif ((limbs x).getD i 0) c)%4294967296))) (?_:(limbs x).length-(i+1)<(limbs x).length-i))))))))) (fun h7=>I (?_:(limbs x).length=out.length) (have hF:=hI.fin' (by omega) hp0;I (hF.2: ∀u∈out,u<4294967296) (q0N (hF.1:q9 out=x-y) ((if_neg (by omega)).symm:0=subC x y))))))))⟩<;>omega)
abbrev q0B:Ctr Tryz.prog:=FI.c q0D
abbrev WT:FI:=⟨134,[.mag,(.nat .u32)],[(.n 1099511627776),(.n 4294967295)],fun z=>(fun(x:Nat)(u:Nat)=>[0<u]) z.1 z.2,fun b z=>(fun(x:Nat)(u:Nat)=> .tup [.one (.dt .mag (b0 b) (x/u)),.one (.dt (.nat .u32) (b1 b) (x%u))]) z.1 z.2⟩
theorem OX:WT.OK Tryz.prog:=jp hmix 43 Tryz.func134 rfl rfl (by decide) [] (fun(x:Nat)(u:Nat) b hx hp=>j8 (qn ((Bnds.h2 hx).1.magLe (q1y _ _)) rfl) (j8 (qn ((Bnds.h2 hx).2.natLe (q1E (q1N _ (hp _ (q1j))))) rfl) z5)) (fun(x:Nat)(u:Nat) hx hp=>by
 have hx0:qt x 1099511627776:=hx.1
 have hl0:(limbs x).length≤34359738369:=qg (q1E hx0)
 have hx1:u≤4294967295:=hx.2
 have hp0:0<u:=hp _ (q1j)
 refine⟨.h 1 2 (.mk (.arr (.nat .u32) (.n 4294967295))) (.loop [.s 8 (.int .i64) (.n 34359738370),.s 7 (.nat .u64) (.n 4294967295),.a 11 (.nat .u32) (.n 4294967295)] (fun((z,r,out):Int×Nat×List Nat)=>SmallZ x u z r out) (fun((z,r,out):Int×Nat×List Nat)=>(z+1).toNat) (fun((z,r,out):Int×Nat×List Nat)=> .cond (.h 6 4 (.ix z.toNat) (.h 6 7 (.i (.n ((r*2^32)+((limbs x).getD z.toNat 0)) 18446744073709551615)) (.h 7 7 (.ix z.toNat) (.nil)))) (.pre 9 (.frz 11 true [6,7]) (.h 9 1 (.c C9) (.nil))))),kcast (by kernel_rfl) (I (?_:(limbs x).length=(limbs x).length) (I (SmallZ.start hp0:SmallZ x u ((((limbs x).length:Nat):Int) -1) 0 (List.replicate ((limbs x).length) (0:Nat))) (fun(z:Int)(r:Nat)(out:List Nat)(hb1:HB [.s 8 (.int .i64) (.n 34359738370),.s 7 (.nat .u64) (.n 4294967295),.a 11 (.nat .u32) (.n 4294967295)] (z,r,out))(hI:SmallZ x u z r out)=>have hv4:=(show Int.natAbs z≤34359738370 from hb1.1);have hv5:=(show r≤4294967295 from hb1.2.1);have hv6:=(show∀u∈out,u≤4294967295 from hb1.2.2);have hB:=hI.b;Sp (0≤z) (fun h2=>I (?_:z=((z.toNat:Nat):Int)) (I (?_:z.toNat<(limbs x).length) (I (Ce _ 32 rfl (qb _ _) (by have:=qb x z.toNat;omega):qJ .or .u64 ((r*2^32:Nat):Int) (((limbs x).getD z.toNat 0:Nat):Int) (((r*2^32)+((limbs x).getD z.toNat 0):Nat):Int)) (I (by have:=qb x z.toNat;omega:(r*2^32)+((limbs x).getD z.toNat 0)≤18446744073709551615) (I (?_:0<u) (I (?_:z=((z.toNat:Nat):Int)) (I (?_:z.toNat<(limbs x).length) (I (?_:z.toNat<out.length) (I (?_:0<u) (I (show Int.natAbs (z-1)≤34359738370 by omega:Bnd (.int .i64) (.n 34359738370) (z-1)) (q0N (hI.step (by omega) rfl:SmallZ x u (z-1) (((r*2^32)+((limbs x).getD z.toNat 0))%u) (out.set z.toNat ((((r*2^32)+((limbs x).getD z.toNat 0))/u)%4294967296))) (?_:((z-1)+1).toNat<(z+1).toNat)))))))))))) (fun h3=>I (?_:(limbs x).length=out.length) (have hF:=hI.fin (by omega);I (hF.2.2: ∀u∈out,u<4294967296) (q0N (hF.1:q9 out=x/u) (hF.2.1:r=x%u)))))))⟩<;>omega)
abbrev WS:Ctr Tryz.prog:=FI.c OX
abbrev W5:FI:=⟨150,[.mag],[(.n 1099511627776)],fun z=>(fun(x:Nat)=>[(limbs x).length≤2]) z,fun b z=>(fun(x:Nat)=> .c (.one (.dt (.nat .u64) (.n 18446744073709551615) x))) z⟩
theorem W6:W5.OK Tryz.prog:=jp hmix 21 Tryz.func150 rfl rfl (by decide) [] (fun(x:Nat) b hx hp=>qn (q1F (Ma (hp _ (q1j)))) rfl) (fun(x:Nat) hx hp=>by
 have hx0:qt x 1099511627776:=hx
 have hl0:(limbs x).length≤34359738369:=qg (q1E hx0)
 have hp0:(limbs x).length≤2:=hp _ (q1j)
 refine⟨.loop [.s 4 (.int .i64) (.n 68719476736),.s 3 (.nat .u64) (.n 18446744073709551615)] (fun((z,v):Int×Nat)=>WordZ x z v) (fun((z,v):Int×Nat)=>(z+1).toNat) (fun((z,v):Int×Nat)=> .cond (.h 5 1 (.i (.n (v*2^32) 18446744073709551615)) (.h 5 4 (.ix z.toNat) (.h 5 7 (.i (.n ((v*2^32)+((limbs x).getD z.toNat 0)) 18446744073709551615)) (.nil)))) (.nil)),kcast (by kernel_rfl) (I (WordZ.start x:WordZ x ((((limbs x).length:Nat):Int) -1) 0) (fun(z:Int)(v:Nat)(hb1:HB [.s 4 (.int .i64) (.n 68719476736),.s 3 (.nat .u64) (.n 18446744073709551615)] (z,v))(hI:WordZ x z v)=>have hv4:=(show Int.natAbs z≤68719476736 from hb1.1);have hv5:=(show v≤18446744073709551615 from hb1.2);have hB0:=hI.h0;have hB1:=hI.h1;Sp (0≤z) (fun h2=>have hw:=hI.lt hp0 (by omega);I (Hm v 32 (by omega) (by omega):qJ .shl .u64 (v:Int) 32 ((v*2^32:Nat):Int)) (I (?_:v*2^32≤18446744073709551615) (I (?_:z=((z.toNat:Nat):Int)) (I (?_:z.toNat<(limbs x).length) (I (Ce _ 32 rfl (qb _ _) (by have:=qb x z.toNat;omega):qJ .or .u64 ((v*2^32:Nat):Int) (((limbs x).getD z.toNat 0:Nat):Int) (((v*2^32)+((limbs x).getD z.toNat 0):Nat):Int)) (I (by have:=qb x z.toNat;omega:(v*2^32)+((limbs x).getD z.toNat 0)≤18446744073709551615) (I (show Int.natAbs (z-1)≤68719476736 by omega:Bnd (.int .i64) (.n 68719476736) (z-1)) (q0N (hI.step (by omega):WordZ x (z-1) ((v*2^32)+((limbs x).getD z.toNat 0))) (?_:((z-1)+1).toNat<(z+1).toNat))))))))) (fun h3=>(hI.fin (by omega):v=x))))⟩<;>omega)
abbrev W4:Ctr Tryz.prog:=FI.c W6
abbrev WJ:FI:=⟨126,[.mag],[(.n 1099511627776)],fun z=>(fun(x:Nat)=>[(limbs x).length≤2]) z,fun b z=>(fun(x:Nat)=> .c (.one (.dt (.nat .u64) (.n 18446744073709551615) x))) z⟩
theorem WK:WJ.OK Tryz.prog:=jp hmix 21 Tryz.func126 rfl rfl (by decide) [] (fun(x:Nat) b hx hp=>qn (q1F (Ma (hp _ (q1j)))) rfl) (fun(x:Nat) hx hp=>by
 have hx0:qt x 1099511627776:=hx
 have hl0:(limbs x).length≤34359738369:=qg (q1E hx0)
 have hp0:(limbs x).length≤2:=hp _ (q1j)
 refine⟨.loop [.s 4 (.int .i64) (.n 68719476736),.s 3 (.nat .u64) (.n 18446744073709551615)] (fun((z,v):Int×Nat)=>WordZ x z v) (fun((z,v):Int×Nat)=>(z+1).toNat) (fun((z,v):Int×Nat)=> .cond (.h 5 1 (.i (.n (v*2^32) 18446744073709551615)) (.h 5 4 (.ix z.toNat) (.h 5 7 (.i (.n ((v*2^32)+((limbs x).getD z.toNat 0)) 18446744073709551615)) (.nil)))) (.nil)),kcast (by kernel_rfl) (I (WordZ.start x:WordZ x ((((limbs x).length:Nat):Int) -1) 0) (fun(z:Int)(v:Nat)(hb1:HB [.s 4 (.int .i64) (.n 68719476736),.s 3 (.nat .u64) (.n 18446744073709551615)] (z,v))(hI:WordZ x z v)=>have hv4:=(show Int.natAbs z≤68719476736 from hb1.1);have hv5:=(show v≤18446744073709551615 from hb1.2);have hB0:=hI.h0;have hB1:=hI.h1;Sp (0≤z) (fun h2=>have hw:=hI.lt hp0 (by omega);I (Hm v 32 (by omega) (by omega):qJ .shl .u64 (v:Int) 32 ((v*2^32:Nat):Int)) (I (?_:v*2^32≤18446744073709551615) (I (?_:z=((z.toNat:Nat):Int)) (I (?_:z.toNat<(limbs x).length) (I (Ce _ 32 rfl (qb _ _) (by have:=qb x z.toNat;omega):qJ .or .u64 ((v*2^32:Nat):Int) (((limbs x).getD z.toNat 0:Nat):Int) (((v*2^32)+((limbs x).getD z.toNat 0):Nat):Int)) (I (by have:=qb x z.toNat;omega:(v*2^32)+((limbs x).getD z.toNat 0)≤18446744073709551615) (I (show Int.natAbs (z-1)≤68719476736 by omega:Bnd (.int .i64) (.n 68719476736) (z-1)) (q0N (hI.step (by omega):WordZ x (z-1) ((v*2^32)+((limbs x).getD z.toNat 0))) (?_:((z-1)+1).toNat<(z+1).toNat))))))))) (fun h3=>(hI.fin (by omega):v=x))))⟩<;>omega)
abbrev OQ:Ctr Tryz.prog:=FI.c WK
abbrev Wp:FO:=⟨152,[.mag,(.nat .i64)],[(.n 1099511627776),(.n 32)],fun _=>[],fun k b z=>(fun(x:Nat)(s:Nat)=> .c (.one (.gs k ((limbs x).length+1) 1 ((b0 b).nb/32+2)))) z.1 z.2,fun b z=>(fun(x:Nat)(s:Nat)=> .gro (.nat .u32) (.n 4294967295) (padL (x*2^s) ((limbs x).length+1))) z.1 z.2⟩
theorem OE:Wp.OK Tryz.prog:=mkO hmix 41 12 Tryz.func152 rfl rfl (by decide) [] (fun _=>rfl) (fun _ _ _=>rfl) (fun _ _=>rfl) (fun _ _ _=>⟨rfl,rfl⟩) (fun(x:Nat)(s:Nat) k b hx hp=>⟨qn (Nat.succ_le_succ (Ol (Bnds.h2 hx).1)) rfl,Ms _ _⟩) (fun(x:Nat)(s:Nat) hx hp=>by
 have hx0:qt x 1099511627776:=hx.1
 have hl0:(limbs x).length≤34359738369:=qg (q1E hx0)
 have hx1:s≤32:=hx.2
 refine bodyO.g (.h 1 3 (.mk (.gro (.nat .u32) (.n 4294967295))) (.loop [.s 15 (.nat .i64) (.n 34359738369),.s 6 (.nat .u64) (.n 4294967295),.bk 12 (.nat .u32) (.n 4294967295)] (fun((i,c,out):Nat×Nat×List Nat)=>RaiseI x s i c out) (fun((i,c,out):Nat×Nat×List Nat)=>(limbs x).length-i) (fun((i,c,out):Nat×Nat×List Nat)=> .cond (.h 6 4 (.i (.n (((limbs x).getD i 0)*2^s) 18446744073709551615)) (.h 6 5 (.i (.n (c+(((limbs x).getD i 0)*2^s)) 18446744073709551615)) (.nil))) (.nil)))) (kcast (by kernel_rfl) (I (?_:((limbs x).length)+1=((limbs x).length)+1) (I (RaiseI.start x s:RaiseI x s 0 0 (List.replicate (((limbs x).length)+1) (0:Nat))) (fun(i:Nat)(c:Nat)(out:List Nat)(hb1:HB [.s 15 (.nat .i64) (.n 34359738369),.s 6 (.nat .u64) (.n 4294967295),.bk 12 (.nat .u32) (.n 4294967295)] (i,c,out))(hI:RaiseI x s i c out)=>have hv4:=(show i≤34359738369 from hb1.1);have hv5:=(show c≤4294967295 from hb1.2.1);have hv6:=(show∀u∈out,u≤4294967295 from hb1.2.2);have hIl:=hI.hl;have hIi:=hI.hi;have hIc:=hI.hc;have hg1:=qb x i;have hbd:=K4 hg1 hx1 hIc;Sp (i<(limbs x).length) (fun h2=>I (?_:i<(limbs x).length) (I (Hm _ _ (by omega) (CA (by omega) (by omega)):qJ .shl .u64 (((limbs x).getD i 0:Nat):Int) (s:Int) ((((limbs x).getD i 0)*2^s:Nat):Int)) (I (q1F (CA (by omega) (by omega)):((limbs x).getD i 0)*2^s≤18446744073709551615) (I (Hl _ _ rfl hIc hbd:qJ .or .u64 (c:Int) ((((limbs x).getD i 0)*2^s:Nat):Int) ((c+(((limbs x).getD i 0)*2^s):Nat):Int)) (I (q1F hbd:c+(((limbs x).getD i 0)*2^s)≤18446744073709551615) (I (?_:i<((limbs x).length)+1) (I (?_:i<out.length) (I (show(i+1)≤34359738369 by omega:Bnd (.nat .i64) (.n 34359738369) (i+1)) (q0N (hI.step (by omega) rfl:RaiseI x s (i+1) ((c+(((limbs x).getD i 0)*2^s))/2^32) (out.set i ((c+(((limbs x).getD i 0)*2^s))%4294967296))) (?_:(limbs x).length-(i+1)<(limbs x).length-i)))))))))) (fun h3=>I (?_:(limbs x).length<((limbs x).length)+1) (I (?_:(limbs x).length<out.length) (q0N (hI.fin' (by omega) (by omega):out.set ((limbs x).length) c=padL (x*2^s) ((limbs x).length+1)) ((?_:((limbs x).length)+1=(limbs x).length+1)))))))))<;>omega)
abbrev Wo:CtrO Tryz.prog:=FO.c OE
abbrev Wn(k:Nat)(b:List Bd)(x:Nat)(s:Nat):WV:= .c (.one (.gs k ((limbs x).length+1) 1 ((b0 b).nb/32+2)))
abbrev Wm(b:List Bd)(x:Nat)(s:Nat):WB:= .gro (.nat .u32) (.n 4294967295) (padL (x*2^s) ((limbs x).length+1))
theorem RS(d:Nat)(x:Nat)(s:Nat)(hx:Bnds [.mag,(.nat .i64)] [(.n 1099511627776),(.n 32)] (x,s))(hp: ∀c0∈([]:List Prop),c0):jW Tryz.prog 152 (argsE [.mag,(.nat .i64)] (x,s)) [] (Wn d [(.n 1099511627776),(.n 32)] x s).exp [(d,some (Wm [(.n 1099511627776),(.n 32)] x s).exp)]:=OE.sig d (x,s) hx hp
abbrev Mx(b:List Bd)(x s:Nat):WV:= .c (.one (.dt (.sl (.nat .u32)) (.s ((b0 b).nb/32+2) (.n 4294967295)) (padL (x*2^s) ((limbs x).length+1))))
theorem RR(b:List Bd)(x s:Nat)(hx:Bnds [.mag,.nat .i64] b (x,s))(hp: ∀p∈([]:List Prop),p):(Mx b x s).ok:=qn ⟨by rw[AT];exact Nat.succ_le_succ (Ol (Bnds.h2 hx).1),Ms _ _⟩ rfl
def TK:Ctr Tryz.prog:=⟨152,[.mag,.nat .i64],[.n 1099511627776,.n 32],fun z=>[],fun b z=>Mx b z.1 z.2,fun z hx hp=>frzO (RS 0 z.1 z.2 hx hp) (by decide) (AT _ _).symm _,fun _ _=>rfl,fun b z hx hp=>RR b z.1 z.2 hx hp⟩
abbrev of_i:FI:=⟨132,[(.nat .u64)],[(.n 18446744073709551615)],fun _=>[],fun b z=>(fun(x:Nat)=> .c (.one (.dt .mag (.n (Nat.log2 (b0 b).nb+1)) (x)))) z⟩
theorem of_k:of_i.OK Tryz.prog:=jp hmix 10 Tryz.func132 rfl rfl (by decide) [] (fun(x:Nat) b hx hp=>qn (q1I (Bnds.h1 hx).nat Nat.lt_log2_self) rfl) (fun(x:Nat) hx hp=>by
 have hx0:x≤18446744073709551615:=hx
 refine⟨.h 1 5 (.mk (.im (.nat .u32) (.n 4294967295))) (.h 1 6 (.c C9) (.nil)),kcast (by kernel_rfl) (I (by intro u hu;simp only[q1h,q1p,or_false]at hu;omega: ∀u∈[x%4294967296,x/2^32],u<4294967296) ((by simp only[q9];omega:q9 [x%4294967296,x/2^32]=x)))⟩)
abbrev of_c:Ctr Tryz.prog:=FI.c of_k
def tab8:ByteArray:=⟨#[0,1,2,2,3,3,3,3,4,4,4,4,4,4,4,4,5,5,5,5,5,5,5,5,5,5,5,5,5,5,5,5,6,6,6,6,6,6,6,6,6,6,6,6,6,6,6,6,6,6,6,6,6,6,6,6,6,6,6,6,6,6,6,6,7,7,7,7,7,7,7,7,7,7,7,7,7,7,7,7,7,7,7,7,7,7,7,7,7,7,7,7,7,7,7,7,7,7,7,7,7,7,7,7,7,7,7,7,7,7,7,7,7,7,7,7,7,7,7,7,7,7,7,7,7,7,7,7,8,8,8,8,8,8,8,8,8,8,8,8,8,8,8,8,8,8,8,8,8,8,8,8,8,8,8,8,8,8,8,8,8,8,8,8,8,8,8,8,8,8,8,8,8,8,8,8,8,8,8,8,8,8,8,8,8,8,8,8,8,8,8,8,8,8,8,8,8,8,8,8,8,8,8,8,8,8,8,8,8,8,8,8,8,8,8,8,8,8,8,8,8,8,8,8,8,8,8,8,8,8,8,8,8,8,8,8,8,8,8,8,8,8,8,8,8,8,8,8,8,8,8,8,8,8,8,8]⟩
abbrev Va:FO:=⟨133,[(.sl (.nat .u32))],[(.s 1099511627776 (.n 4294967295))],fun _=>[],fun k b z=>(fun(ls:List Nat)=> .c (.one (.gs k (ls.length) 1 ((b0 b).len)))) z,fun b z=>(fun(ls:List Nat)=> .gro (.nat .u32) ((b0 b).e) (ls)) z⟩
theorem Vb:Va.OK Tryz.prog:=mkO hmix 8 7 Tryz.func133 rfl rfl (by decide) [] (fun _=>rfl) (fun _ _ _=>rfl) (fun _ _=>rfl) (fun _ _ _=>⟨rfl,rfl⟩) (fun(ls:List Nat) k b hx hp=>⟨qn (Bnds.h1 hx).sl.1 rfl,(Bnds.h1 hx).sl.2⟩) (fun(ls:List Nat) hx hp=>by
 have hl0:ls.length≤1099511627776:=hx.1
 refine bodyO.g (.cond (.nil) (.h 3 0 (.mk (.gro (.nat .u32) (.n 4294967295))) (.nil))) (kcast (by kernel_rfl) (q0N (fun(h1:ls=[])=>q0N (h1.symm:([]:List Nat)=ls) ((by rw[h1];rfl:0=ls.length))) (I (rfl:0=([]:List Nat).length) (q0N (rfl:([]:List Nat)++ls=ls) ((?_:0+ls.length=ls.length))))))<;>omega)
abbrev V9(k:Nat)(b:List Bd)(ls:List Nat):WV:= .c (.one (.gs k (ls.length) 1 ((b0 b).len)))
abbrev V8(b:List Bd)(ls:List Nat):WB:= .gro (.nat .u32) ((b0 b).e) (ls)
theorem QC(d:Nat)(ls:List Nat)(hx:Bnds [(.sl (.nat .u32))] [(.s 1099511627776 (.n 4294967295))] ls)(hp: ∀c0∈([]:List Prop),c0):jW Tryz.prog 133 (argsE [(.sl (.nat .u32))] ls) [] (V9 d [(.s 1099511627776 (.n 4294967295))] ls).exp [(d,some (V8 [(.s 1099511627776 (.n 4294967295))] ls).exp)]:=Vb.sig d ls hx hp
def BR:Ctr Tryz.prog:=⟨133,[.sl (.nat .u32)],[.s 1099511627776 (.n 4294967295)],fun z=>[],fun b z=> .c (.one (.dt (.sl (.nat .u32)) (b0 b) z)),fun z hx hp=>frzO (QC 0 z hx hp) (by decide) rfl _,fun _ _=>rfl,fun b z hx hp=>qn (Bnds.h1 hx) rfl⟩
theorem Pe(x:Nat)(hx:Bnds [.mag] [.n 1099511627776] x):Sig Tryz.prog 133 (argsE [.mag] x) (WV.c (.one (.dt .mag (.n 1099511627776) x))).exp:=by
 have h:=BR.sig (limbs x) ⟨q1H (qg (q1E hx)) (by decide),(Bnd.limbs hx).2⟩ (by intro p hp;cases hp)
 have e:(BR.res BR.bs (limbs x)).exp=(WV.c (.one (.dt .mag (.n 1099511627776) x))).exp:=magE x _ _
 rw[e]at h
 rw[Ey];exact h
def DC:Ctr Tryz.prog:=⟨133,[.mag],[.n 1099511627776],fun z=>[],fun b z=> .c (.one (.dt .mag (b0 b) z)),fun z hx hp=>Pe z hx,fun _ _=>rfl,fun b z hx hp=>qn (Bnds.h1 hx) rfl⟩
abbrev WY:FV:=⟨124,true,(.nat .u32),(.n 4294967295),1099511627776,[],[],fun l lo n cap z=>[n=l.length],fun k b l lo n cap z=> .c (.one (.gs k (limbs (q9 l)).length 1 1099511627776)),fun l lo n cap z=>l⟩
theorem WZ:WY.OK Tryz.prog:=mkSl hmix 21 Tryz.func124 rfl rfl (by decide) [] (fun _=>rfl) (fun _ _ _ _ _=>rfl) (fun _ _ _ _ _ _ _=>rfl) (fun _ _ _ _ _ _=>rfl) (fun(l:List Nat)(lo n cap:Nat)  k b hx hs hn(hm:n≤1099511627776) hp=>⟨qn (q1H (J5 (Jj hs)) (by have:=hp _ (q1j);omega)) rfl,hs⟩) (fun(l:List Nat)(lo n cap:Nat)  hs hx hn(hm:n≤1099511627776) hp=>by
 have hp0:n=l.length:=hp _ (q1j)
 have hU:=Jj hs
 refine⟨.loop [.s 3 (.nat .i64) (.n 1099511627776)] (fun(k:Nat)=>k≤l.length∧q9 (l.take k)=q9 l) (fun(k:Nat)=>k) (fun(k:Nat)=> .cond (.h 2 5 (.i .sub) (.cond (.h 3 1 (.i .sub) (.nil)) (.nil))) (.nil)),kcast (by kernel_rfl) (I (⟨by omega,by rw[hp0,q1r]⟩:n≤l.length∧q9 (l.take n)=q9 l) (fun(k:Nat)(hb1:HB [.s 3 (.nat .i64) (.n 1099511627776)] k)(hC:k≤l.length∧q9 (l.take k)=q9 l)=>have hv6:=(show k≤1099511627776 from hb1);have hk:=hC.1;Sp (0<k) (fun h2=>I (?_:1≤k) (I (?_:k-1<n) (I (?_:k-1<l.length) (Sp (l.getD (k-1) 0=0) (fun h3=>I (?_:1≤k) (q0N (⟨by omega,Fj hC.1 (by omega) hC.2 (by omega)⟩:k-1≤l.length∧q9 (l.take (k-1))=q9 l) (?_:k-1<k))) (fun h4=>I (?_:k≤n) (I (?_:n≤l.length) (q0N (Eq.refl l) ((by rw[←wm hU hC.1 hC.2 (by omega),q1e,q1L hC.1]:k=(limbs (q9 l)).length))))))))) (fun h5=>I (?_:k≤n) (I (?_:n≤l.length) (q0N (Eq.refl l) ((by rw[←wm hU hC.1 hC.2 (by omega),q1e,q1L hC.1]:k=(limbs (q9 l)).length)))))))⟩<;>omega)
abbrev WX:CtrS Tryz.prog:=FV.c WZ
theorem bl_8{x:Nat}(h:x<256):bl x≤8:=by
 have h1:=Ho x
 rcases q1C x with e|e
 ·subst e;decide
 ·have h2:=Ft (n:=x) (by omega)
  apply q1F
  apply Nat.lt_of_not_le
  intro h3
  have:=q1Y (show 0<2 by omega) (show 8≤bl x-1 by omega)
  omega
abbrev VP:FI:=⟨125,[(.nat .u32)],[(.n 4294967295)],fun _=>[],fun b z=>(fun(x:Nat)=> .c (.one (.dt (.nat .i64) (.n (Nat.log2 (b0 b).nb+1)) (bl x)))) z⟩
theorem VQ:VP.OK Tryz.prog:=jp hmix 19 Tryz.func125 rfl rfl (by decide) [] (fun(x:Nat) b hx hp=>qn (Xr (Bnds.h1 hx).nat) rfl) (fun(x:Nat) hx hp=>by
 have hx0:x≤4294967295:=hx
 have h1:65536≤x→bl x=bl (x/2^16)+16:=fun h=>BQ (k:=16) h
 have h2:256≤x/2^16→bl (x/2^16)=bl (x/2^16/2^8)+8:=fun h=>BQ (k:=8) h
 have h3:256≤x→bl x=bl (x/2^8)+8:=fun h=>BQ (k:=8) h
 refine⟨.cond (.cond (.h 7 2 (.i (.n (((x/2^16)/2^8)%256) 255)) (.h 7 3 (.any [.c (.one (.vl (.string tab8))),.c (.one (.dt (.nat .u8) (.n 255) (((x/2^16)/2^8)%256)))] (.c (.one (.dt (.nat .u8) (.n 8) (bl (((x/2^16)/2^8)%256))))) (qn (bl_8 (q1N _ (by decide))) rfl) (Op.index 9 (.const (.string tab8)) (.tmp 15)) (fun _=>FC (j:=(((x/2^16)/2^8)%256)) (by kernel_rfl) rfl (q1N _ (by decide)) (by kernel_rfl))) (.nil))) (.h 7 2 (.i (.n ((x/2^16)%256) 255)) (.h 7 3 (.any [.c (.one (.vl (.string tab8))),.c (.one (.dt (.nat .u8) (.n 255) ((x/2^16)%256)))] (.c (.one (.dt (.nat .u8) (.n 8) (bl ((x/2^16)%256))))) (qn (bl_8 (q1N _ (by decide))) rfl) (Op.index 9 (.const (.string tab8)) (.tmp 15)) (fun _=>FC (j:=((x/2^16)%256)) (by kernel_rfl) rfl (q1N _ (by decide)) (by kernel_rfl))) (.nil)))) (.cond (.h 7 2 (.i (.n ((x/2^8)%256) 255)) (.h 7 3 (.any [.c (.one (.vl (.string tab8))),.c (.one (.dt (.nat .u8) (.n 255) ((x/2^8)%256)))] (.c (.one (.dt (.nat .u8) (.n 8) (bl ((x/2^8)%256))))) (qn (bl_8 (q1N _ (by decide))) rfl) (Op.index 9 (.const (.string tab8)) (.tmp 15)) (fun _=>FC (j:=((x/2^8)%256)) (by kernel_rfl) rfl (q1N _ (by decide)) (by kernel_rfl))) (.nil))) (.h 7 2 (.i (.n (x%256) 255)) (.h 7 3 (.any [.c (.one (.vl (.string tab8))),.c (.one (.dt (.nat .u8) (.n 255) (x%256)))] (.c (.one (.dt (.nat .u8) (.n 8) (bl (x%256))))) (qn (bl_8 (q1N _ (by decide))) rfl) (Op.index 9 (.const (.string tab8)) (.tmp 15)) (fun _=>FC (j:=(x%256)) (by kernel_rfl) rfl (q1N _ (by decide)) (by kernel_rfl))) (.nil)))),kcast (by kernel_rfl) (Sp (65536≤x) (fun h1=>Sp (256≤x/2^16) (fun h2=>I (HM _:IntKind.wrap .u8 (((x/2^16)/2^8:Nat):Int)=((((x/2^16)/2^8)%256:Nat):Int)) (I (?_:((x/2^16)/2^8)%256≤255) (I (rfl:([.c (.one (.vl (.string tab8))),.c (.one (.dt (.nat .u8) (.n 255) (((x/2^16)/2^8)%256)))]:List WV)=[.c (.one (.vl (.string tab8))),.c (.one (.dt (.nat .u8) (.n 255) (((x/2^16)/2^8)%256)))]) (I (rfl:(Op.index 9 (.const (.string tab8)) (.tmp 15):Op)=Op.index 9 (.const (.string tab8)) (.tmp 15)) ((by rw[q1M (show((x/2^16)/2^8)<256 by omega)];omega:24+(bl (((x/2^16)/2^8)%256))=bl x)))))) (fun h3=>I (HM _:IntKind.wrap .u8 ((x/2^16:Nat):Int)=(((x/2^16)%256:Nat):Int)) (I (?_:(x/2^16)%256≤255) (I (rfl:([.c (.one (.vl (.string tab8))),.c (.one (.dt (.nat .u8) (.n 255) ((x/2^16)%256)))]:List WV)=[.c (.one (.vl (.string tab8))),.c (.one (.dt (.nat .u8) (.n 255) ((x/2^16)%256)))]) (I (rfl:(Op.index 9 (.const (.string tab8)) (.tmp 15):Op)=Op.index 9 (.const (.string tab8)) (.tmp 15)) ((by rw[q1M (show(x/2^16)<256 by omega)];omega:16+(bl ((x/2^16)%256))=bl x))))))) (fun h4=>Sp (256≤x) (fun h5=>I (HM _:IntKind.wrap .u8 ((x/2^8:Nat):Int)=(((x/2^8)%256:Nat):Int)) (I (?_:(x/2^8)%256≤255) (I (rfl:([.c (.one (.vl (.string tab8))),.c (.one (.dt (.nat .u8) (.n 255) ((x/2^8)%256)))]:List WV)=[.c (.one (.vl (.string tab8))),.c (.one (.dt (.nat .u8) (.n 255) ((x/2^8)%256)))]) (I (rfl:(Op.index 9 (.const (.string tab8)) (.tmp 15):Op)=Op.index 9 (.const (.string tab8)) (.tmp 15)) ((by rw[q1M (show(x/2^8)<256 by omega)];omega:8+(bl ((x/2^8)%256))=bl x)))))) (fun h6=>I (HM _:IntKind.wrap .u8 (x:Int)=((x%256:Nat):Int)) (I (?_:x%256≤255) (I (rfl:([.c (.one (.vl (.string tab8))),.c (.one (.dt (.nat .u8) (.n 255) (x%256)))]:List WV)=[.c (.one (.vl (.string tab8))),.c (.one (.dt (.nat .u8) (.n 255) (x%256)))]) (I (rfl:(Op.index 9 (.const (.string tab8)) (.tmp 15):Op)=Op.index 9 (.const (.string tab8)) (.tmp 15)) ((by rw[q1M (show x<256 by omega)];omega:0+(bl (x%256))=bl x))))))))⟩<;>omega)
abbrev Oj:Ctr Tryz.prog:=FI.c VQ
abbrev Y1:FI:=⟨151,[(.nat .u32)],[(.n 4294967295)],fun _=>[],fun b z=>(fun(x:Nat)=> .c (.one (.dt (.nat .i64) (.n 32) (32-bl x)))) z⟩
theorem Y2:Y1.OK Tryz.prog:=jp hmix 6 Tryz.func151 rfl rfl (by decide) [(125,.c Oj)] (fun(x:Nat) b hx hp=>qn (Nat.sub_le _ _) rfl) (fun(x:Nat) hx hp=>by
 have hx0:x≤4294967295:=hx
 have hb:= @Pc x
 refine⟨.h 1 2 (.i .sub) (.nil),kcast (by kernel_rfl) (I (?_:bl x≤32) ((?_:32-(bl x)=32-bl x)))⟩<;>omega)
abbrev Y0:Ctr Tryz.prog:=FI.c Y2
abbrev Xp:FI:=⟨96,[.mag],[(.n 1099511627776)],fun _=>[],fun b z=>(fun(x:Nat)=> .c (.one (.dt (.nat .i64) (b0 b) (bl x)))) z⟩
theorem Xq:Xp.OK Tryz.prog:=jp hmix 20 Tryz.func96 rfl rfl (by decide) [(124,.c BI),(125,.c Oj)] (fun(x:Nat) b hx hp=>qn (Qw (Bnds.h1 hx)) rfl) (fun(x:Nat) hx hp=>by
 have hx0:qt x 1099511627776:=hx
 have hl0:(limbs x).length≤34359738369:=qg (q1E hx0)
 refine⟨.cond (.nil) (.h 4 2 (.i .sub) (.h 4 7 (.i .sub) (.nil))),kcast (by kernel_rfl) (Sp ((limbs x).length=0) (fun h1=>(by have:=(nl0 (x:=x)).1 (by omega);subst this;rfl:0=bl x)) (fun h2=>have hpos:=(show 0<(limbs x).length by omega);have hBB:=ID hpos;I (?_:1≤(limbs x).length) (I (?_:1≤(limbs x).length) (I (?_:((limbs x).length) -1<(limbs x).length) ((?_:(32*(((limbs x).length) -1))+(bl ((limbs x).getD (((limbs x).length) -1) 0))=bl x))))))⟩<;>omega)
abbrev Qv:Ctr Tryz.prog:=FI.c Xq
abbrev ZP:FI:=⟨130,[.mag,.mag],[(.n 1099511627776),(.n 1099511627776)],fun z=>(fun(x:Nat)(y:Nat)=>[0<y]) z.1 z.2,fun b z=>(fun(x:Nat)(y:Nat)=> .tup [.one (.dt .mag (b0 b) (x/y)),.one (.dt .mag (b1 b) (x%y)),.one (.kn .i64 0)]) z.1 z.2⟩
theorem ZQ:ZP.OK Tryz.prog:=jp hmix 300 Tryz.func130 rfl rfl (by decide) [(119,.c Pf),(124,.c C9),(133,.c DC),(134,.c WS),(151,.c Y0),(152,.c TK)] (fun(x:Nat)(y:Nat) b hx hp=>j8 (qn ((Bnds.h2 hx).1.magLe (q1y _ _)) rfl) (j8 (qn ((Bnds.h2 hx).2.magLe (q1E (q1N _ (hp _ (q1j))))) rfl) (j8 Uw z5))) (fun(x:Nat)(y:Nat) hx hp=>by
 have hx0:qt x 1099511627776:=hx.1
 have hl0:(limbs x).length≤34359738369:=qg (q1E hx0)
 have hx1:qt y 1099511627776:=hx.2
 have hl1:(limbs y).length≤34359738369:=qg (q1E hx1)
 have hp0:0<y:=hp _ (q1j)
 have hyp:=mt (nl0 (x:=y)).1 (show¬y=0 by omega)
 refine⟨.h 1 1 (.c BI) (.h 1 3 (.c BI) (.cond (.dead) (.cond (.nil) (.cond (.h 8 2 (.mk (.im (.nat .u32) (.n 4294967295))) (.nil)) (.h 9 3 (.i .sub) ((fun(s:Nat)=> .h 10 2 (.o Wo) (.h 10 6 (.mag (y*2^s) 1099511627808) ((fun(m:Nat)=> .h 12 3 (.i .sub) (.h 12 4 (.mk (.arr (.nat .u32) (.n 4294967295))) (.loop [.s 13 (.int .i64) (.n 1099511627776),.bk 66 (.nat .u32) (.n 4294967295),.a 77 (.nat .u32) (.n 4294967295)] (fun((z,out,ql):Int×List Nat×List Nat)=>DivZ x y s z out ql) (fun((z,out,ql):Int×List Nat×List Nat)=>(z+1).toNat) (fun((z,out,ql):Int×List Nat×List Nat)=> .cond ((fun(j:Nat)=> .h 16 4 (.ix (j+m)) (.h 16 13 (.ix (j+m-1)) (.h 16 16 (.i (.n (((out.getD (j+m) 0)*2^32)+(out.getD (j+m-1) 0)) 18446744073709551615)) ((fun(t:Nat)=> .h 17 3 (.i .sub) (.h 17 11 (.i .sub) (.loop [.s 15 (.nat .u64) (.n 4294967297),.s 16 (.nat .u64) (.n 4294967295)] (fun((q,r):Nat×Nat)=>Est x y s j out q r) (fun((q,r):Nat×Nat)=>q) (fun((q,r):Nat×Nat)=> .cond (.h 19 1 (.i .sub) (.h 20 3 (.i .sub) (.cond (.loop [.s 156 (.nat .i64) (.n 137438953472),.s 17 (.nat .u64) (.n 1),.s 18 (.nat .u64) (.n 4294967295),.bk 66 (.nat .u32) (.n 4294967295)] (fun((i2,b,k,ls2):Nat×Nat×Nat×List Nat)=>MsI y s j (q-1) out i2 k b ls2) (fun((i2,b,k,ls2):Nat×Nat×Nat×List Nat)=>(limbs (y*2^s)).length-i2) (fun((i2,b,k,ls2):Nat×Nat×Nat×List Nat)=> .cond (.h 26 5 (.i (.n (k+((q-1)*((limbs (y*2^s)).getD i2 0))) 18446744073709551615)) (.h 27 4 (.ix (i2+j)) (.h 27 8 (.i (.n ((k+((q-1)*((limbs (y*2^s)).getD i2 0)))%4294967296) 4294967295)) (.h 27 9 (.i (.n (dif (ls2.getD (i2+j) 0) ((k+((q-1)*((limbs (y*2^s)).getD i2 0)))%4294967296)) 18446744073709551615)) (.h 27 11 (.i (.n (dif (dif (ls2.getD (i2+j) 0) ((k+((q-1)*((limbs (y*2^s)).getD i2 0)))%4294967296)) b) 18446744073709551615)) (.h 28 6 (.ix (i2+j)) (.nil))))))) (.h 32 4 (.ix (j+m)) (.h 32 8 (.i (.n (dif (ls2.getD (j+m) 0) k) 18446744073709551615)) (.h 32 10 (.i (.n (dif (dif (ls2.getD (j+m) 0) k) b) 18446744073709551615)) ((fun(d:Nat)=> .h 33 6 (.ix (j+m)) (.cond (.h 35 1 (.i .sub) (.loop [.s 216 (.nat .i64) (.n 137438953472),.s 18 (.nat .u64) (.n 1),.bk 66 (.nat .u32) (.n 4294967295)] (fun((i3,c3,ls3):Nat×Nat×List Nat)=>AbI y s j (ls2.set (j+m) (d%4294967296)) i3 c3 ls3) (fun((i3,c3,ls3):Nat×Nat×List Nat)=>(limbs (y*2^s)).length-i3) (fun((i3,c3,ls3):Nat×Nat×List Nat)=> .cond (.h 40 5 (.ix (i3+j)) (.h 41 6 (.ix (i3+j)) (.nil))) (.h 44 4 (.ix (j+m)) (.h 44 8 (.i (.n (((ls3.getD (j+m) 0)+c3)%4294967296) 4294967295)) (.h 44 9 (.ix (j+m)) (.h 45 4 (.ix j) (.nil)))))))) (.h 45 4 (.ix j) (.nil)))) (dif (dif (ls2.getD (j+m) 0) k) b))))))) (.nil)))) (.h 18 6 (.i .sub) (.h 18 18 (.ix (j+m-2)) (.h 18 21 (.i (.n ((r*2^32)+(out.getD (j+m-2) 0)) 18446744073709551615)) (.cond (.h 19 1 (.i .sub) (.h 20 3 (.i .sub) (.cond (.loop [.s 156 (.nat .i64) (.n 137438953472),.s 17 (.nat .u64) (.n 1),.s 18 (.nat .u64) (.n 4294967295),.bk 66 (.nat .u32) (.n 4294967295)] (fun((i2,b,k,ls2):Nat×Nat×Nat×List Nat)=>MsI y s j (q-1) out i2 k b ls2) (fun((i2,b,k,ls2):Nat×Nat×Nat×List Nat)=>(limbs (y*2^s)).length-i2) (fun((i2,b,k,ls2):Nat×Nat×Nat×List Nat)=> .cond (.h 26 5 (.i (.n (k+((q-1)*((limbs (y*2^s)).getD i2 0))) 18446744073709551615)) (.h 27 4 (.ix (i2+j)) (.h 27 8 (.i (.n ((k+((q-1)*((limbs (y*2^s)).getD i2 0)))%4294967296) 4294967295)) (.h 27 9 (.i (.n (dif (ls2.getD (i2+j) 0) ((k+((q-1)*((limbs (y*2^s)).getD i2 0)))%4294967296)) 18446744073709551615)) (.h 27 11 (.i (.n (dif (dif (ls2.getD (i2+j) 0) ((k+((q-1)*((limbs (y*2^s)).getD i2 0)))%4294967296)) b) 18446744073709551615)) (.h 28 6 (.ix (i2+j)) (.nil))))))) (.h 32 4 (.ix (j+m)) (.h 32 8 (.i (.n (dif (ls2.getD (j+m) 0) k) 18446744073709551615)) (.h 32 10 (.i (.n (dif (dif (ls2.getD (j+m) 0) k) b) 18446744073709551615)) ((fun(d:Nat)=> .h 33 6 (.ix (j+m)) (.cond (.h 35 1 (.i .sub) (.loop [.s 216 (.nat .i64) (.n 137438953472),.s 18 (.nat .u64) (.n 1),.bk 66 (.nat .u32) (.n 4294967295)] (fun((i3,c3,ls3):Nat×Nat×List Nat)=>AbI y s j (ls2.set (j+m) (d%4294967296)) i3 c3 ls3) (fun((i3,c3,ls3):Nat×Nat×List Nat)=>(limbs (y*2^s)).length-i3) (fun((i3,c3,ls3):Nat×Nat×List Nat)=> .cond (.h 40 5 (.ix (i3+j)) (.h 41 6 (.ix (i3+j)) (.nil))) (.h 44 4 (.ix (j+m)) (.h 44 8 (.i (.n (((ls3.getD (j+m) 0)+c3)%4294967296) 4294967295)) (.h 44 9 (.ix (j+m)) (.h 45 4 (.ix j) (.nil)))))))) (.h 45 4 (.ix j) (.nil)))) (dif (dif (ls2.getD (j+m) 0) k) b))))))) (.nil)))) (.loop [.s 156 (.nat .i64) (.n 137438953472),.s 17 (.nat .u64) (.n 1),.s 18 (.nat .u64) (.n 4294967295),.bk 66 (.nat .u32) (.n 4294967295)] (fun((i2,b,k,ls2):Nat×Nat×Nat×List Nat)=>MsI y s j q out i2 k b ls2) (fun((i2,b,k,ls2):Nat×Nat×Nat×List Nat)=>(limbs (y*2^s)).length-i2) (fun((i2,b,k,ls2):Nat×Nat×Nat×List Nat)=> .cond (.h 26 5 (.i (.n (k+(q*((limbs (y*2^s)).getD i2 0))) 18446744073709551615)) (.h 27 4 (.ix (i2+j)) (.h 27 8 (.i (.n ((k+(q*((limbs (y*2^s)).getD i2 0)))%4294967296) 4294967295)) (.h 27 9 (.i (.n (dif (ls2.getD (i2+j) 0) ((k+(q*((limbs (y*2^s)).getD i2 0)))%4294967296)) 18446744073709551615)) (.h 27 11 (.i (.n (dif (dif (ls2.getD (i2+j) 0) ((k+(q*((limbs (y*2^s)).getD i2 0)))%4294967296)) b) 18446744073709551615)) (.h 28 6 (.ix (i2+j)) (.nil))))))) (.h 32 4 (.ix (j+m)) (.h 32 8 (.i (.n (dif (ls2.getD (j+m) 0) k) 18446744073709551615)) (.h 32 10 (.i (.n (dif (dif (ls2.getD (j+m) 0) k) b) 18446744073709551615)) ((fun(d:Nat)=> .h 33 6 (.ix (j+m)) (.cond (.h 35 1 (.i .sub) (.loop [.s 216 (.nat .i64) (.n 137438953472),.s 18 (.nat .u64) (.n 1),.bk 66 (.nat .u32) (.n 4294967295)] (fun((i3,c3,ls3):Nat×Nat×List Nat)=>AbI y s j (ls2.set (j+m) (d%4294967296)) i3 c3 ls3) (fun((i3,c3,ls3):Nat×Nat×List Nat)=>(limbs (y*2^s)).length-i3) (fun((i3,c3,ls3):Nat×Nat×List Nat)=> .cond (.h 40 5 (.ix (i3+j)) (.h 41 6 (.ix (i3+j)) (.nil))) (.h 44 4 (.ix (j+m)) (.h 44 8 (.i (.n (((ls3.getD (j+m) 0)+c3)%4294967296) 4294967295)) (.h 44 9 (.ix (j+m)) (.h 45 4 (.ix j) (.nil)))))))) (.h 45 4 (.ix j) (.nil)))) (dif (dif (ls2.getD (j+m) 0) k) b))))))))))))))) (((out.getD (j+m) 0)*2^32)+(out.getD (j+m-1) 0)))))) z.toNat) (.h 46 1 (.s WX) (.loop [.s 262 (.nat .i64) (.n 1099511627776),.bk 66 (.nat .u32) (.n 4294967295)] (fun((i4,ls4):Nat×List Nat)=>DownI (q9 out) s ((limbs x).length+1) i4 ls4) (fun((i4,ls4):Nat×List Nat)=>(limbs (q9 out)).length-i4) (fun((i4,ls4):Nat×List Nat)=> .cond (.h 50 5 (.i (.n ((ls4.getD i4 0)/2^s) 4294967295)) (.cond (.cond (.h 52 10 (.i .sub) (.h 52 11 (.i (.n (((ls4.set i4 ((ls4.getD i4 0)/2^s)).getD (i4+1) 0)*2^(32-s)%4294967296) 4294967295)) (.h 52 12 (.i (.n (((ls4.set i4 ((ls4.getD i4 0)/2^s)).getD i4 0)+(((ls4.set i4 ((ls4.getD i4 0)/2^s)).getD (i4+1) 0)*2^(32-s)%4294967296)) 4294967295)) (.nil)))) (.nil)) (.nil))) (.pre 54 (.frz 77 true [4,5,66]) (.pre 54 (.frz 66 false [4,5]) (.nil)))))))))) ((limbs (y*2^s)).length)))) (32-bl ((limbs y).getD (((limbs y).length) -1) 0)))))))),kcast (by kernel_rfl) (q0N (fun(h1:(limbs y).length=0)=>(absurd (nl0.1 h1) (by omega):False)) (fun(h2: ¬((limbs y).length=0))=>q0N (fun(h3:qM x y<0)=>q0N ((Nat.div_eq_of_lt (jL.1 (by omega))).symm:0=x/y) ((q1M (jL.1 (by omega))).symm:x=x%y)) (fun(h4: ¬(qM x y<0))=>q0N (fun(h5:(limbs y).length=1)=>have hyx:=(show y≤x from by have:=mt jL.2 (show¬qM x y<0 by omega);omega);have hl1:=(show(limbs y).length=1 by omega);have hg0:=qb y 0;have hy1:=(show(limbs y).getD 0 0=y from by have:=zH (x:=y) (by omega);rw[hl1]at this;simpa[q9]using this.symm);I (by omega:0<(limbs y).length) (I (by omega:0<(limbs y).getD 0 0) (I (by intro u hu;simp only[q1h,q1p,or_false]at hu;subst hu;have:=q1N x (show 0<(limbs y).getD 0 0 by omega);omega: ∀u∈[x%((limbs y).getD 0 0)],u<4294967296) (q0N (by rw[hy1]:x/((limbs y).getD 0 0)=x/y) (by rw[hy1];rfl:q9 [x%((limbs y).getD 0 0)]=x%y))))) (fun(h6: ¬((limbs y).length=1))=>have hyx:=(show y≤x from by have:=mt jL.2 (show¬qM x y<0 by omega);omega);have hg0:=qb y ((limbs y).length-1);have hsd:= @Pc _ hg0;have hC0:=DivC.mk' (x:=x) (y:=y) (by omega) hyx;I (by omega:1≤(limbs y).length) (I (by omega:((limbs y).length) -1<(limbs y).length) ((fun(s:Nat)(hs:s=32-bl ((limbs y).getD (((limbs y).length) -1) 0))=>have hC:=(show DivC x y s from by subst hs;exact hC0);have hss:=hC.hs;have hV:=hC.hV;have hC2:=hC.h2;have hCx:=hC.hyx;I (FZ _ _: ∀u∈padL (y*2^s) ((limbs y).length+1),u<4294967296) (I (F6 y s (by omega):q9 (padL (y*2^s) ((limbs y).length+1))=y*2^s) (I (Ro hx1 (by omega):qt (y*2^s) 1099511627808) ((fun(m:Nat)(hm:m=(limbs y).length)=>have hDt:=(show 2147483648≤(limbs (y*2^s)).getD (m-1) 0 from by subst hm;exact hC.ht);I (by omega:m≤(limbs x).length+1) (I (by omega:((limbs x).length+1) -m=((limbs x).length+1) -m) (I (DivZ.start hC (by omega):DivZ x y s (((((limbs x).length+1) -m:Nat):Int) -1) (padL (x*2^s) ((limbs x).length+1)) (List.replicate (((limbs x).length+1) -m) (0:Nat))) (fun(z:Int)(out:List Nat)(ql:List Nat)(hb7:HB [.s 13 (.int .i64) (.n 1099511627776),.bk 66 (.nat .u32) (.n 4294967295),.a 77 (.nat .u32) (.n 4294967295)] (z,out,ql))(hD:DivZ x y s z out ql)=>have hv75:=(show Int.natAbs z≤1099511627776 from hb7.1);have hv76:=(show∀u∈out,u≤4294967295 from hb7.2.1);have hv77:=(show∀u∈ql,u≤4294967295 from hb7.2.2);have hDb:=hD.b;have hg:=(vg (by omega) hD.h.hu: ∀k,out.getD k 0<4294967296);q0N (fun(h8:0≤z)=>(fun(j:Nat)(hj:j=z.toNat)=>have hz0:=(show 0≤z by omega);have hD1:=hD.at hz0 hj;have hga:=hg (j+m);have hgb:=hg (j+m-1);have hgc:=hg (j+m-2);have hva:=qb (y*2^s) (m-1);have hvb:=qb (y*2^s) (m-2);I (by omega:z+(m:Int)=((j+m:Nat):Int)) (I (by omega:j+m<(limbs x).length+1) (I (by omega:j+m<out.length) (I (by omega:(z+(m:Int)) -1=((j+m-1:Nat):Int)) (I (by omega:j+m-1<(limbs x).length+1) (I (by omega:j+m-1<out.length) (I (Ce _ 32 rfl (by omega) (by omega):qJ .or .u64 (((out.getD (j+m) 0)*2^32:Nat):Int) ((out.getD (j+m-1) 0:Nat):Int) ((((out.getD (j+m) 0)*2^32)+(out.getD (j+m-1) 0):Nat):Int)) (I (by omega:((out.getD (j+m) 0)*2^32)+(out.getD (j+m-1) 0)≤18446744073709551615) ((fun(t:Nat)(ht:t=((out.getD (j+m) 0)*2^32)+(out.getD (j+m-1) 0))=>I (by omega:1≤m) (I (by omega:m-1<(limbs (y*2^s)).length) (I (by omega:0<(limbs (y*2^s)).getD (m-1) 0) (I (by omega:1≤m) (I (by omega:m-1<(limbs (y*2^s)).length) (I (by omega:0<(limbs (y*2^s)).getD (m-1) 0) (I (by subst hm;have hE0:=Est.start hC hD1 ht;first|exact hE0.hq|exact q1F hE0.hr:Bnd (.nat .u64) (.n 4294967297) (t/((limbs (y*2^s)).getD (m-1) 0))) (I (by subst hm;exact Est.start hC hD1 ht:Est x y s j out (t/((limbs (y*2^s)).getD (m-1) 0)) (t%((limbs (y*2^s)).getD (m-1) 0))) (fun(q:Nat)(r:Nat)(hb9:HB [.s 15 (.nat .u64) (.n 4294967297),.s 16 (.nat .u64) (.n 4294967295)] (q,r))(hE:Est x y s j out q r)=>have hv63:=(show q≤4294967297 from hb9.1);have hv64:=(show r≤4294967295 from hb9.2);have hEq:=hE.hq;have hEr:=hE.hr;q0N (fun(h10:4294967296≤q)=>have hTest:=(show 4294967296≤q∨r*4294967296+out.getD (j+m-2) 0<q*(limbs (y*2^s)).getD (m-2) 0 from by first|exact .inl (by omega)|exact .inr (by omega));have hq1:=(show 1≤q from by subst hm;exact(hE.less hC hD1 hTest).2);I (by omega:1≤q) (I (by omega:1≤m) (I (by omega:m-1<(limbs (y*2^s)).length) (q0N (fun(h11:4294967296≤r+((limbs (y*2^s)).getD (m-1) 0))=>have hG:=(show Dig x y s j out (q-1)from by subst hm;first|exact hE.brk hC hD1 hTest (by omega)|exact hE.fin hC hD1 (by omega) (by omega));I (MsI.start hD1.hu:MsI y s j (q-1) out 0 0 0 out) (fun(i2:Nat)(b:Nat)(k:Nat)(ls2:List Nat)(hb12:HB [.s 156 (.nat .i64) (.n 137438953472),.s 17 (.nat .u64) (.n 1),.s 18 (.nat .u64) (.n 4294967295),.bk 66 (.nat .u32) (.n 4294967295)] (i2,b,k,ls2))(hM:MsI y s j (q-1) out i2 k b ls2)=>have hv23:=(show i2≤137438953472 from hb12.1);have hv24:=(show b≤1 from hb12.2.1);have hv25:=(show k≤4294967295 from hb12.2.2.1);have hv26:=(show∀u∈ls2,u≤4294967295 from hb12.2.2.2);have hMl:=hM.hl;have hMi:=hM.hi;have hMk:=hM.hk;have hMb:=hM.hb;have hGq:=hG.hq;have hmg:=(vg (by omega) hM.hu: ∀k,ls2.getD k 0<4294967296);have hmg0:=hmg (i2+j);have hmt:=hmg (j+m);have hmv:=qb (y*2^s) i2;have hmm:=(q1S (by omega) (by omega):(q-1)*(limbs (y*2^s)).getD i2 0≤4294967295*4294967295);q0N (fun(h13:i2<(limbs (y*2^s)).length)=>I (by omega:i2<(limbs (y*2^s)).length) (I (L7 (by omega):qJ .add .u64 (k:Int) (((q-1)*((limbs (y*2^s)).getD i2 0):Nat):Int) ((k+((q-1)*((limbs (y*2^s)).getD i2 0)):Nat):Int)) (I (by omega:k+((q-1)*((limbs (y*2^s)).getD i2 0))≤18446744073709551615) (I (by omega:(i2:Int)+z=((i2+j:Nat):Int)) (I (by omega:i2+j<(limbs x).length+1) (I (by omega:i2+j<ls2.length) (I (L8 (by omega):qJ .and .u64 ((k+((q-1)*((limbs (y*2^s)).getD i2 0)):Nat):Int) 4294967295 (((k+((q-1)*((limbs (y*2^s)).getD i2 0)))%4294967296:Nat):Int)) (I (by omega:(k+((q-1)*((limbs (y*2^s)).getD i2 0)))%4294967296≤4294967295) (I (z7 (by first|omega|exact zq) (by omega):qJ .sub .u64 ((ls2.getD (i2+j) 0:Nat):Int) (((k+((q-1)*((limbs (y*2^s)).getD i2 0)))%4294967296:Nat):Int) ((dif (ls2.getD (i2+j) 0) ((k+((q-1)*((limbs (y*2^s)).getD i2 0)))%4294967296):Nat):Int)) (I (vE _ _:dif (ls2.getD (i2+j) 0) ((k+((q-1)*((limbs (y*2^s)).getD i2 0)))%4294967296)≤18446744073709551615) (I (z7 (by first|omega|exact zq) (by omega):qJ .sub .u64 ((dif (ls2.getD (i2+j) 0) ((k+((q-1)*((limbs (y*2^s)).getD i2 0)))%4294967296):Nat):Int) (b:Int) ((dif (dif (ls2.getD (i2+j) 0) ((k+((q-1)*((limbs (y*2^s)).getD i2 0)))%4294967296)) b:Nat):Int)) (I (vE _ _:dif (dif (ls2.getD (i2+j) 0) ((k+((q-1)*((limbs (y*2^s)).getD i2 0)))%4294967296)) b≤18446744073709551615) (I (by omega:(i2:Int)+z=((i2+j:Nat):Int)) (I (by omega:i2+j<(limbs x).length+1) (I (by omega:i2+j<ls2.length) (I (show(i2+1)≤137438953472 by omega:Bnd (.nat .i64) (.n 137438953472) (i2+1)) (q0N ((hM.step (by omega) (by omega) hG.hq rfl rfl).1:MsI y s j (q-1) out (i2+1) ((k+((q-1)*((limbs (y*2^s)).getD i2 0)))/2^32) ((dif (dif (ls2.getD (i2+j) 0) ((k+((q-1)*((limbs (y*2^s)).getD i2 0)))%4294967296)) b)/2^63) (ls2.set (i2+j) ((dif (dif (ls2.getD (i2+j) 0) ((k+((q-1)*((limbs (y*2^s)).getD i2 0)))%4294967296)) b)%4294967296))) (by omega:(limbs (y*2^s)).length-(i2+1)<(limbs (y*2^s)).length-i2)))))))))))))))))) (fun(h14: ¬(i2<(limbs (y*2^s)).length))=>have hM1:=(show i2=m by omega)▸hM;I (by omega:z+(m:Int)=((j+m:Nat):Int)) (I (by omega:j+m<(limbs x).length+1) (I (by omega:j+m<ls2.length) (I (z7 (by first|omega|exact zq) (by omega):qJ .sub .u64 ((ls2.getD (j+m) 0:Nat):Int) (k:Int) ((dif (ls2.getD (j+m) 0) k:Nat):Int)) (I (vE _ _:dif (ls2.getD (j+m) 0) k≤18446744073709551615) (I (z7 (by first|omega|exact zq) (by omega):qJ .sub .u64 ((dif (ls2.getD (j+m) 0) k:Nat):Int) (b:Int) ((dif (dif (ls2.getD (j+m) 0) k) b:Nat):Int)) (I (vE _ _:dif (dif (ls2.getD (j+m) 0) k) b≤18446744073709551615) ((fun(d:Nat)(hd:d=dif (dif (ls2.getD (j+m) 0) k) b)=>I (by omega:z+(m:Int)=((j+m:Nat):Int)) (I (by omega:j+m<(limbs x).length+1) (I (by omega:j+m<ls2.length) (have hT:=MsI.top hM1 (by omega) (by omega) hd;have hT1:=hT.1;have hT2:=hT.2.1;have hT3:=hT.2.2.1;have hT4:=hT.2.2.2.1;have hT5:=hT.2.2.2.2;q0N (fun(h15:d/2^63≠0)=>have hd1:=(show d/9223372036854775808=1 by omega);have hT1:=(show _ from by rw[hd1]at hT1;exact hT1);have hq1:=(show 1≤(q-1)from by subst hm;exact Dig.pos hC hD1 hT4 hT5 hT1);I (by omega:1≤q-1) (I (AbI.start hT5:AbI y s j (ls2.set (j+m) (d%4294967296)) 0 0 (ls2.set (j+m) (d%4294967296))) (fun(i3:Nat)(c3:Nat)(ls3:List Nat)(hb16:HB [.s 216 (.nat .i64) (.n 137438953472),.s 18 (.nat .u64) (.n 1),.bk 66 (.nat .u32) (.n 4294967295)] (i3,c3,ls3))(hB:AbI y s j (ls2.set (j+m) (d%4294967296)) i3 c3 ls3)=>have hv19:=(show i3≤137438953472 from hb16.1);have hv20:=(show c3≤1 from hb16.2.1);have hv21:=(show∀u∈ls3,u≤4294967295 from hb16.2.2);have hBl:=hB.hl;have hBi:=hB.hi;have hBc:=hB.hc;have hbg:=(vg (by omega) hB.hu: ∀k,ls3.getD k 0<4294967296);have hbg0:=hbg (i3+j);have hbt:=hbg (j+m);have hbv:=qb (y*2^s) i3;q0N (fun(h17:i3<(limbs (y*2^s)).length)=>I (by omega:i3<(limbs (y*2^s)).length) (I (by omega:(i3:Int)+z=((i3+j:Nat):Int)) (I (by omega:i3+j<(limbs x).length+1) (I (by omega:i3+j<ls3.length) (I (by omega:(i3:Int)+z=((i3+j:Nat):Int)) (I (by omega:i3+j<(limbs x).length+1) (I (by omega:i3+j<ls3.length) (I (show(i3+1)≤137438953472 by omega:Bnd (.nat .i64) (.n 137438953472) (i3+1)) (q0N (hB.step (by omega) (by omega) rfl:AbI y s j (ls2.set (j+m) (d%4294967296)) (i3+1) ((c3+((ls3.getD (i3+j) 0)+((limbs (y*2^s)).getD i3 0)))/2^32) (ls3.set (i3+j) ((c3+((ls3.getD (i3+j) 0)+((limbs (y*2^s)).getD i3 0)))%4294967296))) (by omega:(limbs (y*2^s)).length-(i3+1)<(limbs (y*2^s)).length-i3)))))))))) (fun(h18: ¬(i3<(limbs (y*2^s)).length))=>have hB1:=(show i3=m by omega)▸hB;I (by omega:z+(m:Int)=((j+m:Nat):Int)) (I (by omega:j+m<(limbs x).length+1) (I (by omega:j+m<ls3.length) (I (IC _ _:qJ .add .u32 ((ls3.getD (j+m) 0:Nat):Int) (c3:Int) ((((ls3.getD (j+m) 0)+c3)%4294967296:Nat):Int)) (I (by omega:((ls3.getD (j+m) 0)+c3)%4294967296≤4294967295) (I (by omega:z+(m:Int)=((j+m:Nat):Int)) (I (by omega:j+m<(limbs x).length+1) (I (by omega:j+m<ls3.length) (have hA:=AbI.top' hB1 (by omega) (by omega);I (by omega:z=(j:Int)) (I (by omega:j<((limbs x).length+1) -m) (I (by omega:j<ql.length) (I (show Int.natAbs (z-1)≤1099511627776 by omega:Bnd (.int .i64) (.n 1099511627776) (z-1)) (q0N (by subst hm;first|exact DivZ.of hz0 hj (hD1.even hC hG hT4 hT5 hT3 (by rw[show d/9223372036854775808=0 by omega,Nat.mul_zero,q1x]at hT1;exact hT1))|exact DivZ.of hz0 hj (hA.elim fun c2 hA=>hD1.odd hC hG hT4 hT5 hT3 hT1 hA.2.2.1 hA.2.2.2 hA.2.1 hA.1):DivZ x y s (z-1) (ls3.set (j+m) (((ls3.getD (j+m) 0)+c3)%4294967296)) (ql.set j (((q-1) -1)%4294967296))) (by omega:((z-1)+1).toNat<(z+1).toNat))))))))))))))))) (fun(h22: ¬(d/2^63≠0))=>I (by omega:z=(j:Int)) (I (by omega:j<((limbs x).length+1) -m) (I (by omega:j<ql.length) (I (show Int.natAbs (z-1)≤1099511627776 by omega:Bnd (.int .i64) (.n 1099511627776) (z-1)) (q0N (by subst hm;first|exact DivZ.of hz0 hj (hD1.even hC hG hT4 hT5 hT3 (by rw[show d/9223372036854775808=0 by omega,Nat.mul_zero,q1x]at hT1;exact hT1))|exact DivZ.of hz0 hj (hA.elim fun c2 hA=>hD1.odd hC hG hT4 hT5 hT3 hT1 hA.2.2.1 hA.2.2.2 hA.2.1 hA.1):DivZ x y s (z-1) (ls2.set (j+m) (d%4294967296)) (ql.set j ((q-1)%4294967296))) (by omega:((z-1)+1).toNat<(z+1).toNat)))))))))) (dif (dif (ls2.getD (j+m) 0) k) b) rfl)))))))))) (fun(h27: ¬(4294967296≤r+((limbs (y*2^s)).getD (m-1) 0)))=>I (show(r+((limbs (y*2^s)).getD (m-1) 0))≤4294967295 by omega:Bnd (.nat .u64) (.n 4294967295) (r+((limbs (y*2^s)).getD (m-1) 0))) (q0N (by subst hm;exact hE.step hC hD1 hTest (by omega):Est x y s j out (q-1) (r+((limbs (y*2^s)).getD (m-1) 0))) (by omega:q-1<q))))))) (fun(h28: ¬(4294967296≤q))=>I (by omega:2≤m) (I (by omega:m-2<(limbs (y*2^s)).length) (I (by omega:(z+(m:Int)) -2=((j+m-2:Nat):Int)) (I (by omega:j+m-2<(limbs x).length+1) (I (by omega:j+m-2<out.length) (I (Ce _ 32 rfl (hg _) (by have:=hg (j+m-2);omega):qJ .or .u64 ((r*2^32:Nat):Int) ((out.getD (j+m-2) 0:Nat):Int) (((r*2^32)+(out.getD (j+m-2) 0):Nat):Int)) (I (by have:=hg (j+m-2);omega:(r*2^32)+(out.getD (j+m-2) 0)≤18446744073709551615) (q0N (fun(h29:(r*2^32)+(out.getD (j+m-2) 0)<q*((limbs (y*2^s)).getD (m-2) 0))=>have hTest:=(show 4294967296≤q∨r*4294967296+out.getD (j+m-2) 0<q*(limbs (y*2^s)).getD (m-2) 0 from by first|exact .inl (by omega)|exact .inr (by omega));have hq1:=(show 1≤q from by subst hm;exact(hE.less hC hD1 hTest).2);I (by omega:1≤q) (I (by omega:1≤m) (I (by omega:m-1<(limbs (y*2^s)).length) (q0N (fun(h30:4294967296≤r+((limbs (y*2^s)).getD (m-1) 0))=>have hG:=(show Dig x y s j out (q-1)from by subst hm;first|exact hE.brk hC hD1 hTest (by omega)|exact hE.fin hC hD1 (by omega) (by omega));I (MsI.start hD1.hu:MsI y s j (q-1) out 0 0 0 out) (fun(i2:Nat)(b:Nat)(k:Nat)(ls2:List Nat)(hb31:HB [.s 156 (.nat .i64) (.n 137438953472),.s 17 (.nat .u64) (.n 1),.s 18 (.nat .u64) (.n 4294967295),.bk 66 (.nat .u32) (.n 4294967295)] (i2,b,k,ls2))(hM:MsI y s j (q-1) out i2 k b ls2)=>have hv42:=(show i2≤137438953472 from hb31.1);have hv43:=(show b≤1 from hb31.2.1);have hv44:=(show k≤4294967295 from hb31.2.2.1);have hv45:=(show∀u∈ls2,u≤4294967295 from hb31.2.2.2);have hMl:=hM.hl;have hMi:=hM.hi;have hMk:=hM.hk;have hMb:=hM.hb;have hGq:=hG.hq;have hmg:=(vg (by omega) hM.hu: ∀k,ls2.getD k 0<4294967296);have hmg0:=hmg (i2+j);have hmt:=hmg (j+m);have hmv:=qb (y*2^s) i2;have hmm:=(q1S (by omega) (by omega):(q-1)*(limbs (y*2^s)).getD i2 0≤4294967295*4294967295);q0N (fun(h32:i2<(limbs (y*2^s)).length)=>I (by omega:i2<(limbs (y*2^s)).length) (I (L7 (by omega):qJ .add .u64 (k:Int) (((q-1)*((limbs (y*2^s)).getD i2 0):Nat):Int) ((k+((q-1)*((limbs (y*2^s)).getD i2 0)):Nat):Int)) (I (by omega:k+((q-1)*((limbs (y*2^s)).getD i2 0))≤18446744073709551615) (I (by omega:(i2:Int)+z=((i2+j:Nat):Int)) (I (by omega:i2+j<(limbs x).length+1) (I (by omega:i2+j<ls2.length) (I (L8 (by omega):qJ .and .u64 ((k+((q-1)*((limbs (y*2^s)).getD i2 0)):Nat):Int) 4294967295 (((k+((q-1)*((limbs (y*2^s)).getD i2 0)))%4294967296:Nat):Int)) (I (by omega:(k+((q-1)*((limbs (y*2^s)).getD i2 0)))%4294967296≤4294967295) (I (z7 (by first|omega|exact zq) (by omega):qJ .sub .u64 ((ls2.getD (i2+j) 0:Nat):Int) (((k+((q-1)*((limbs (y*2^s)).getD i2 0)))%4294967296:Nat):Int) ((dif (ls2.getD (i2+j) 0) ((k+((q-1)*((limbs (y*2^s)).getD i2 0)))%4294967296):Nat):Int)) (I (vE _ _:dif (ls2.getD (i2+j) 0) ((k+((q-1)*((limbs (y*2^s)).getD i2 0)))%4294967296)≤18446744073709551615) (I (z7 (by first|omega|exact zq) (by omega):qJ .sub .u64 ((dif (ls2.getD (i2+j) 0) ((k+((q-1)*((limbs (y*2^s)).getD i2 0)))%4294967296):Nat):Int) (b:Int) ((dif (dif (ls2.getD (i2+j) 0) ((k+((q-1)*((limbs (y*2^s)).getD i2 0)))%4294967296)) b:Nat):Int)) (I (vE _ _:dif (dif (ls2.getD (i2+j) 0) ((k+((q-1)*((limbs (y*2^s)).getD i2 0)))%4294967296)) b≤18446744073709551615) (I (by omega:(i2:Int)+z=((i2+j:Nat):Int)) (I (by omega:i2+j<(limbs x).length+1) (I (by omega:i2+j<ls2.length) (I (show(i2+1)≤137438953472 by omega:Bnd (.nat .i64) (.n 137438953472) (i2+1)) (q0N ((hM.step (by omega) (by omega) hG.hq rfl rfl).1:MsI y s j (q-1) out (i2+1) ((k+((q-1)*((limbs (y*2^s)).getD i2 0)))/2^32) ((dif (dif (ls2.getD (i2+j) 0) ((k+((q-1)*((limbs (y*2^s)).getD i2 0)))%4294967296)) b)/2^63) (ls2.set (i2+j) ((dif (dif (ls2.getD (i2+j) 0) ((k+((q-1)*((limbs (y*2^s)).getD i2 0)))%4294967296)) b)%4294967296))) (by omega:(limbs (y*2^s)).length-(i2+1)<(limbs (y*2^s)).length-i2)))))))))))))))))) (fun(h33: ¬(i2<(limbs (y*2^s)).length))=>have hM1:=(show i2=m by omega)▸hM;I (by omega:z+(m:Int)=((j+m:Nat):Int)) (I (by omega:j+m<(limbs x).length+1) (I (by omega:j+m<ls2.length) (I (z7 (by first|omega|exact zq) (by omega):qJ .sub .u64 ((ls2.getD (j+m) 0:Nat):Int) (k:Int) ((dif (ls2.getD (j+m) 0) k:Nat):Int)) (I (vE _ _:dif (ls2.getD (j+m) 0) k≤18446744073709551615) (I (z7 (by first|omega|exact zq) (by omega):qJ .sub .u64 ((dif (ls2.getD (j+m) 0) k:Nat):Int) (b:Int) ((dif (dif (ls2.getD (j+m) 0) k) b:Nat):Int)) (I (vE _ _:dif (dif (ls2.getD (j+m) 0) k) b≤18446744073709551615) ((fun(d:Nat)(hd:d=dif (dif (ls2.getD (j+m) 0) k) b)=>I (by omega:z+(m:Int)=((j+m:Nat):Int)) (I (by omega:j+m<(limbs x).length+1) (I (by omega:j+m<ls2.length) (have hT:=MsI.top hM1 (by omega) (by omega) hd;have hT1:=hT.1;have hT2:=hT.2.1;have hT3:=hT.2.2.1;have hT4:=hT.2.2.2.1;have hT5:=hT.2.2.2.2;q0N (fun(h34:d/2^63≠0)=>have hd1:=(show d/9223372036854775808=1 by omega);have hT1:=(show _ from by rw[hd1]at hT1;exact hT1);have hq1:=(show 1≤(q-1)from by subst hm;exact Dig.pos hC hD1 hT4 hT5 hT1);I (by omega:1≤q-1) (I (AbI.start hT5:AbI y s j (ls2.set (j+m) (d%4294967296)) 0 0 (ls2.set (j+m) (d%4294967296))) (fun(i3:Nat)(c3:Nat)(ls3:List Nat)(hb35:HB [.s 216 (.nat .i64) (.n 137438953472),.s 18 (.nat .u64) (.n 1),.bk 66 (.nat .u32) (.n 4294967295)] (i3,c3,ls3))(hB:AbI y s j (ls2.set (j+m) (d%4294967296)) i3 c3 ls3)=>have hv38:=(show i3≤137438953472 from hb35.1);have hv39:=(show c3≤1 from hb35.2.1);have hv40:=(show∀u∈ls3,u≤4294967295 from hb35.2.2);have hBl:=hB.hl;have hBi:=hB.hi;have hBc:=hB.hc;have hbg:=(vg (by omega) hB.hu: ∀k,ls3.getD k 0<4294967296);have hbg0:=hbg (i3+j);have hbt:=hbg (j+m);have hbv:=qb (y*2^s) i3;q0N (fun(h36:i3<(limbs (y*2^s)).length)=>I (by omega:i3<(limbs (y*2^s)).length) (I (by omega:(i3:Int)+z=((i3+j:Nat):Int)) (I (by omega:i3+j<(limbs x).length+1) (I (by omega:i3+j<ls3.length) (I (by omega:(i3:Int)+z=((i3+j:Nat):Int)) (I (by omega:i3+j<(limbs x).length+1) (I (by omega:i3+j<ls3.length) (I (show(i3+1)≤137438953472 by omega:Bnd (.nat .i64) (.n 137438953472) (i3+1)) (q0N (hB.step (by omega) (by omega) rfl:AbI y s j (ls2.set (j+m) (d%4294967296)) (i3+1) ((c3+((ls3.getD (i3+j) 0)+((limbs (y*2^s)).getD i3 0)))/2^32) (ls3.set (i3+j) ((c3+((ls3.getD (i3+j) 0)+((limbs (y*2^s)).getD i3 0)))%4294967296))) (by omega:(limbs (y*2^s)).length-(i3+1)<(limbs (y*2^s)).length-i3)))))))))) (fun(h37: ¬(i3<(limbs (y*2^s)).length))=>have hB1:=(show i3=m by omega)▸hB;I (by omega:z+(m:Int)=((j+m:Nat):Int)) (I (by omega:j+m<(limbs x).length+1) (I (by omega:j+m<ls3.length) (I (IC _ _:qJ .add .u32 ((ls3.getD (j+m) 0:Nat):Int) (c3:Int) ((((ls3.getD (j+m) 0)+c3)%4294967296:Nat):Int)) (I (by omega:((ls3.getD (j+m) 0)+c3)%4294967296≤4294967295) (I (by omega:z+(m:Int)=((j+m:Nat):Int)) (I (by omega:j+m<(limbs x).length+1) (I (by omega:j+m<ls3.length) (have hA:=AbI.top' hB1 (by omega) (by omega);I (by omega:z=(j:Int)) (I (by omega:j<((limbs x).length+1) -m) (I (by omega:j<ql.length) (I (show Int.natAbs (z-1)≤1099511627776 by omega:Bnd (.int .i64) (.n 1099511627776) (z-1)) (q0N (by subst hm;first|exact DivZ.of hz0 hj (hD1.even hC hG hT4 hT5 hT3 (by rw[show d/9223372036854775808=0 by omega,Nat.mul_zero,q1x]at hT1;exact hT1))|exact DivZ.of hz0 hj (hA.elim fun c2 hA=>hD1.odd hC hG hT4 hT5 hT3 hT1 hA.2.2.1 hA.2.2.2 hA.2.1 hA.1):DivZ x y s (z-1) (ls3.set (j+m) (((ls3.getD (j+m) 0)+c3)%4294967296)) (ql.set j (((q-1) -1)%4294967296))) (by omega:((z-1)+1).toNat<(z+1).toNat))))))))))))))))) (fun(h41: ¬(d/2^63≠0))=>I (by omega:z=(j:Int)) (I (by omega:j<((limbs x).length+1) -m) (I (by omega:j<ql.length) (I (show Int.natAbs (z-1)≤1099511627776 by omega:Bnd (.int .i64) (.n 1099511627776) (z-1)) (q0N (by subst hm;first|exact DivZ.of hz0 hj (hD1.even hC hG hT4 hT5 hT3 (by rw[show d/9223372036854775808=0 by omega,Nat.mul_zero,q1x]at hT1;exact hT1))|exact DivZ.of hz0 hj (hA.elim fun c2 hA=>hD1.odd hC hG hT4 hT5 hT3 hT1 hA.2.2.1 hA.2.2.2 hA.2.1 hA.1):DivZ x y s (z-1) (ls2.set (j+m) (d%4294967296)) (ql.set j ((q-1)%4294967296))) (by omega:((z-1)+1).toNat<(z+1).toNat)))))))))) (dif (dif (ls2.getD (j+m) 0) k) b) rfl)))))))))) (fun(h46: ¬(4294967296≤r+((limbs (y*2^s)).getD (m-1) 0)))=>I (show(r+((limbs (y*2^s)).getD (m-1) 0))≤4294967295 by omega:Bnd (.nat .u64) (.n 4294967295) (r+((limbs (y*2^s)).getD (m-1) 0))) (q0N (by subst hm;exact hE.step hC hD1 hTest (by omega):Est x y s j out (q-1) (r+((limbs (y*2^s)).getD (m-1) 0))) (by omega:q-1<q))))))) (fun(h47: ¬((r*2^32)+(out.getD (j+m-2) 0)<q*((limbs (y*2^s)).getD (m-2) 0)))=>have hG:=(show Dig x y s j out q from by subst hm;first|exact hE.brk hC hD1 hTest (by omega)|exact hE.fin hC hD1 (by omega) (by omega));I (MsI.start hD1.hu:MsI y s j q out 0 0 0 out) (fun(i2:Nat)(b:Nat)(k:Nat)(ls2:List Nat)(hb48:HB [.s 156 (.nat .i64) (.n 137438953472),.s 17 (.nat .u64) (.n 1),.s 18 (.nat .u64) (.n 4294967295),.bk 66 (.nat .u32) (.n 4294967295)] (i2,b,k,ls2))(hM:MsI y s j q out i2 k b ls2)=>have hv59:=(show i2≤137438953472 from hb48.1);have hv60:=(show b≤1 from hb48.2.1);have hv61:=(show k≤4294967295 from hb48.2.2.1);have hv62:=(show∀u∈ls2,u≤4294967295 from hb48.2.2.2);have hMl:=hM.hl;have hMi:=hM.hi;have hMk:=hM.hk;have hMb:=hM.hb;have hGq:=hG.hq;have hmg:=(vg (by omega) hM.hu: ∀k,ls2.getD k 0<4294967296);have hmg0:=hmg (i2+j);have hmt:=hmg (j+m);have hmv:=qb (y*2^s) i2;have hmm:=(q1S (by omega) (by omega):q*(limbs (y*2^s)).getD i2 0≤4294967295*4294967295);q0N (fun(h49:i2<(limbs (y*2^s)).length)=>I (by omega:i2<(limbs (y*2^s)).length) (I (L7 (by omega):qJ .add .u64 (k:Int) ((q*((limbs (y*2^s)).getD i2 0):Nat):Int) ((k+(q*((limbs (y*2^s)).getD i2 0)):Nat):Int)) (I (by omega:k+(q*((limbs (y*2^s)).getD i2 0))≤18446744073709551615) (I (by omega:(i2:Int)+z=((i2+j:Nat):Int)) (I (by omega:i2+j<(limbs x).length+1) (I (by omega:i2+j<ls2.length) (I (L8 (by omega):qJ .and .u64 ((k+(q*((limbs (y*2^s)).getD i2 0)):Nat):Int) 4294967295 (((k+(q*((limbs (y*2^s)).getD i2 0)))%4294967296:Nat):Int)) (I (by omega:(k+(q*((limbs (y*2^s)).getD i2 0)))%4294967296≤4294967295) (I (z7 (by first|omega|exact zq) (by omega):qJ .sub .u64 ((ls2.getD (i2+j) 0:Nat):Int) (((k+(q*((limbs (y*2^s)).getD i2 0)))%4294967296:Nat):Int) ((dif (ls2.getD (i2+j) 0) ((k+(q*((limbs (y*2^s)).getD i2 0)))%4294967296):Nat):Int)) (I (vE _ _:dif (ls2.getD (i2+j) 0) ((k+(q*((limbs (y*2^s)).getD i2 0)))%4294967296)≤18446744073709551615) (I (z7 (by first|omega|exact zq) (by omega):qJ .sub .u64 ((dif (ls2.getD (i2+j) 0) ((k+(q*((limbs (y*2^s)).getD i2 0)))%4294967296):Nat):Int) (b:Int) ((dif (dif (ls2.getD (i2+j) 0) ((k+(q*((limbs (y*2^s)).getD i2 0)))%4294967296)) b:Nat):Int)) (I (vE _ _:dif (dif (ls2.getD (i2+j) 0) ((k+(q*((limbs (y*2^s)).getD i2 0)))%4294967296)) b≤18446744073709551615) (I (by omega:(i2:Int)+z=((i2+j:Nat):Int)) (I (by omega:i2+j<(limbs x).length+1) (I (by omega:i2+j<ls2.length) (I (show(i2+1)≤137438953472 by omega:Bnd (.nat .i64) (.n 137438953472) (i2+1)) (q0N ((hM.step (by omega) (by omega) hG.hq rfl rfl).1:MsI y s j q out (i2+1) ((k+(q*((limbs (y*2^s)).getD i2 0)))/2^32) ((dif (dif (ls2.getD (i2+j) 0) ((k+(q*((limbs (y*2^s)).getD i2 0)))%4294967296)) b)/2^63) (ls2.set (i2+j) ((dif (dif (ls2.getD (i2+j) 0) ((k+(q*((limbs (y*2^s)).getD i2 0)))%4294967296)) b)%4294967296))) (by omega:(limbs (y*2^s)).length-(i2+1)<(limbs (y*2^s)).length-i2)))))))))))))))))) (fun(h50: ¬(i2<(limbs (y*2^s)).length))=>have hM1:=(show i2=m by omega)▸hM;I (by omega:z+(m:Int)=((j+m:Nat):Int)) (I (by omega:j+m<(limbs x).length+1) (I (by omega:j+m<ls2.length) (I (z7 (by first|omega|exact zq) (by omega):qJ .sub .u64 ((ls2.getD (j+m) 0:Nat):Int) (k:Int) ((dif (ls2.getD (j+m) 0) k:Nat):Int)) (I (vE _ _:dif (ls2.getD (j+m) 0) k≤18446744073709551615) (I (z7 (by first|omega|exact zq) (by omega):qJ .sub .u64 ((dif (ls2.getD (j+m) 0) k:Nat):Int) (b:Int) ((dif (dif (ls2.getD (j+m) 0) k) b:Nat):Int)) (I (vE _ _:dif (dif (ls2.getD (j+m) 0) k) b≤18446744073709551615) ((fun(d:Nat)(hd:d=dif (dif (ls2.getD (j+m) 0) k) b)=>I (by omega:z+(m:Int)=((j+m:Nat):Int)) (I (by omega:j+m<(limbs x).length+1) (I (by omega:j+m<ls2.length) (have hT:=MsI.top hM1 (by omega) (by omega) hd;have hT1:=hT.1;have hT2:=hT.2.1;have hT3:=hT.2.2.1;have hT4:=hT.2.2.2.1;have hT5:=hT.2.2.2.2;q0N (fun(h51:d/2^63≠0)=>have hd1:=(show d/9223372036854775808=1 by omega);have hT1:=(show _ from by rw[hd1]at hT1;exact hT1);have hq1:=(show 1≤q from by subst hm;exact Dig.pos hC hD1 hT4 hT5 hT1);I (by omega:1≤q) (I (AbI.start hT5:AbI y s j (ls2.set (j+m) (d%4294967296)) 0 0 (ls2.set (j+m) (d%4294967296))) (fun(i3:Nat)(c3:Nat)(ls3:List Nat)(hb52:HB [.s 216 (.nat .i64) (.n 137438953472),.s 18 (.nat .u64) (.n 1),.bk 66 (.nat .u32) (.n 4294967295)] (i3,c3,ls3))(hB:AbI y s j (ls2.set (j+m) (d%4294967296)) i3 c3 ls3)=>have hv55:=(show i3≤137438953472 from hb52.1);have hv56:=(show c3≤1 from hb52.2.1);have hv57:=(show∀u∈ls3,u≤4294967295 from hb52.2.2);have hBl:=hB.hl;have hBi:=hB.hi;have hBc:=hB.hc;have hbg:=(vg (by omega) hB.hu: ∀k,ls3.getD k 0<4294967296);have hbg0:=hbg (i3+j);have hbt:=hbg (j+m);have hbv:=qb (y*2^s) i3;q0N (fun(h53:i3<(limbs (y*2^s)).length)=>I (by omega:i3<(limbs (y*2^s)).length) (I (by omega:(i3:Int)+z=((i3+j:Nat):Int)) (I (by omega:i3+j<(limbs x).length+1) (I (by omega:i3+j<ls3.length) (I (by omega:(i3:Int)+z=((i3+j:Nat):Int)) (I (by omega:i3+j<(limbs x).length+1) (I (by omega:i3+j<ls3.length) (I (show(i3+1)≤137438953472 by omega:Bnd (.nat .i64) (.n 137438953472) (i3+1)) (q0N (hB.step (by omega) (by omega) rfl:AbI y s j (ls2.set (j+m) (d%4294967296)) (i3+1) ((c3+((ls3.getD (i3+j) 0)+((limbs (y*2^s)).getD i3 0)))/2^32) (ls3.set (i3+j) ((c3+((ls3.getD (i3+j) 0)+((limbs (y*2^s)).getD i3 0)))%4294967296))) (by omega:(limbs (y*2^s)).length-(i3+1)<(limbs (y*2^s)).length-i3)))))))))) (fun(h54: ¬(i3<(limbs (y*2^s)).length))=>have hB1:=(show i3=m by omega)▸hB;I (by omega:z+(m:Int)=((j+m:Nat):Int)) (I (by omega:j+m<(limbs x).length+1) (I (by omega:j+m<ls3.length) (I (IC _ _:qJ .add .u32 ((ls3.getD (j+m) 0:Nat):Int) (c3:Int) ((((ls3.getD (j+m) 0)+c3)%4294967296:Nat):Int)) (I (by omega:((ls3.getD (j+m) 0)+c3)%4294967296≤4294967295) (I (by omega:z+(m:Int)=((j+m:Nat):Int)) (I (by omega:j+m<(limbs x).length+1) (I (by omega:j+m<ls3.length) (have hA:=AbI.top' hB1 (by omega) (by omega);I (by omega:z=(j:Int)) (I (by omega:j<((limbs x).length+1) -m) (I (by omega:j<ql.length) (I (show Int.natAbs (z-1)≤1099511627776 by omega:Bnd (.int .i64) (.n 1099511627776) (z-1)) (q0N (by subst hm;first|exact DivZ.of hz0 hj (hD1.even hC hG hT4 hT5 hT3 (by rw[show d/9223372036854775808=0 by omega,Nat.mul_zero,q1x]at hT1;exact hT1))|exact DivZ.of hz0 hj (hA.elim fun c2 hA=>hD1.odd hC hG hT4 hT5 hT3 hT1 hA.2.2.1 hA.2.2.2 hA.2.1 hA.1):DivZ x y s (z-1) (ls3.set (j+m) (((ls3.getD (j+m) 0)+c3)%4294967296)) (ql.set j ((q-1)%4294967296))) (by omega:((z-1)+1).toNat<(z+1).toNat))))))))))))))))) (fun(h58: ¬(d/2^63≠0))=>I (by omega:z=(j:Int)) (I (by omega:j<((limbs x).length+1) -m) (I (by omega:j<ql.length) (I (show Int.natAbs (z-1)≤1099511627776 by omega:Bnd (.int .i64) (.n 1099511627776) (z-1)) (q0N (by subst hm;first|exact DivZ.of hz0 hj (hD1.even hC hG hT4 hT5 hT3 (by rw[show d/9223372036854775808=0 by omega,Nat.mul_zero,q1x]at hT1;exact hT1))|exact DivZ.of hz0 hj (hA.elim fun c2 hA=>hD1.odd hC hG hT4 hT5 hT3 hT1 hA.2.2.1 hA.2.2.2 hA.2.1 hA.1):DivZ x y s (z-1) (ls2.set (j+m) (d%4294967296)) (ql.set j (q%4294967296))) (by omega:((z-1)+1).toNat<(z+1).toNat)))))))))) (dif (dif (ls2.getD (j+m) 0) k) b) rfl))))))))))))))))))))))))))) (((out.getD (j+m) 0)*2^32)+(out.getD (j+m-1) 0)) rfl))))))))) z.toNat rfl) (fun(h65: ¬(0≤z))=>have hF:=hD.fin (by omega);I (by omega:(limbs x).length+1=out.length) (I (DownI.start hF.2.2.2 hDb.2.2.1 rfl:DownI (q9 out) s ((limbs x).length+1) 0 out) (fun(i4:Nat)(ls4:List Nat)(hb66:HB [.s 262 (.nat .i64) (.n 1099511627776),.bk 66 (.nat .u32) (.n 4294967295)] (i4,ls4))(hW:DownI (q9 out) s ((limbs x).length+1) i4 ls4)=>have hv73:=(show i4≤1099511627776 from hb66.1);have hv74:=(show∀u∈ls4,u≤4294967295 from hb66.2);have hWl:=hW.hl;have hWi:=hW.hi;have hWN:=hW.hN;have hwg:=(vg (by omega) hW.hu: ∀k,ls4.getD k 0<4294967296);q0N (fun(h67:i4<(limbs (q9 out)).length)=>I (by omega:i4<(limbs (q9 out)).length) (I (by omega:i4<ls4.length) (I (L9 _ _ (show s≤32 by omega):qJ .shr .u32 ((ls4.getD i4 0:Nat):Int) (s:Int) (((ls4.getD i4 0)/2^s:Nat):Int)) (I (q1H (q1y _ _) (by have:=hwg i4;omega):(ls4.getD i4 0)/2^s≤4294967295) (I (by omega:i4<(limbs (q9 out)).length) (I (by omega:i4<ls4.length) (q0N (fun(h68:0<s)=>q0N (fun(h69:i4+1<(limbs (q9 out)).length)=>I (by omega:i4<(limbs (q9 out)).length) (I (by simp only[List.length_set];omega:i4<(ls4.set i4 ((ls4.getD i4 0)/2^s)).length) (I (by omega:i4+1<(limbs (q9 out)).length) (I (by simp only[List.length_set];omega:i4+1<(ls4.set i4 ((ls4.getD i4 0)/2^s)).length) (I (by omega:s≤32) (I (V4 _ _ (by omega):qJ .shl .u32 (((ls4.set i4 ((ls4.getD i4 0)/2^s)).getD (i4+1) 0:Nat):Int) ((32-s:Nat):Int) ((((ls4.set i4 ((ls4.getD i4 0)/2^s)).getD (i4+1) 0)*2^(32-s)%4294967296:Nat):Int)) (I (by omega:((ls4.set i4 ((ls4.getD i4 0)/2^s)).getD (i4+1) 0)*2^(32-s)%4294967296≤4294967295) (I ((NS (by omega) hwg (by omega)).1:qJ .or .u32 (((ls4.set i4 ((ls4.getD i4 0)/2^s)).getD i4 0:Nat):Int) ((((ls4.set i4 ((ls4.getD i4 0)/2^s)).getD (i4+1) 0)*2^(32-s)%4294967296:Nat):Int) ((((ls4.set i4 ((ls4.getD i4 0)/2^s)).getD i4 0)+(((ls4.set i4 ((ls4.getD i4 0)/2^s)).getD (i4+1) 0)*2^(32-s)%4294967296):Nat):Int)) (I ((NS (by omega) hwg (by omega)).2:((ls4.set i4 ((ls4.getD i4 0)/2^s)).getD i4 0)+(((ls4.set i4 ((ls4.getD i4 0)/2^s)).getD (i4+1) 0)*2^(32-s)%4294967296)≤4294967295) (I (by omega:i4<(limbs (q9 out)).length) (I (by simp only[List.length_set];omega:i4<(ls4.set i4 ((ls4.getD i4 0)/2^s)).length) (I (show(i4+1)≤1099511627776 by omega:Bnd (.nat .i64) (.n 1099511627776) (i4+1)) (q0N (by first|exact hW.step1 (by omega) (by omega) (by omega)|exact hW.step2 (by omega) (by omega):DownI (q9 out) s ((limbs x).length+1) (i4+1) ((ls4.set i4 ((ls4.getD i4 0)/2^s)).set i4 (((ls4.set i4 ((ls4.getD i4 0)/2^s)).getD i4 0)+(((ls4.set i4 ((ls4.getD i4 0)/2^s)).getD (i4+1) 0)*2^(32-s)%4294967296)))) (by omega:(limbs (q9 out)).length-(i4+1)<(limbs (q9 out)).length-i4)))))))))))))) (fun(h70: ¬(i4+1<(limbs (q9 out)).length))=>I (show(i4+1)≤1099511627776 by omega:Bnd (.nat .i64) (.n 1099511627776) (i4+1)) (q0N (by first|exact hW.step1 (by omega) (by omega) (by omega)|exact hW.step2 (by omega) (by omega):DownI (q9 out) s ((limbs x).length+1) (i4+1) (ls4.set i4 ((ls4.getD i4 0)/2^s))) (by omega:(limbs (q9 out)).length-(i4+1)<(limbs (q9 out)).length-i4)))) (fun(h71: ¬(0<s))=>I (show(i4+1)≤1099511627776 by omega:Bnd (.nat .i64) (.n 1099511627776) (i4+1)) (q0N (by first|exact hW.step1 (by omega) (by omega) (by omega)|exact hW.step2 (by omega) (by omega):DownI (q9 out) s ((limbs x).length+1) (i4+1) (ls4.set i4 ((ls4.getD i4 0)/2^s))) (by omega:(limbs (q9 out)).length-(i4+1)<(limbs (q9 out)).length-i4)))))))))) (fun(h72: ¬(i4<(limbs (q9 out)).length))=>I (by omega:((limbs x).length+1) -m=ql.length) (I (by omega:(limbs (q9 out)).length≤ls4.length) (have hFin:=(DownI.fin' hW (by omega) rfl);I (hF.2.2.1: ∀u∈ql,u<4294967296) (I (hFin.2: ∀u∈ls4.take ((limbs (q9 out)).length),u<4294967296) (q0N (hF.1:q9 ql=x/y) (by rw[hFin.1,hF.2.1,Nat.mul_div_cancel _ (q1Z (by omega))]:q9 (ls4.take ((limbs (q9 out)).length))=x%y))))))))))))) ((limbs (y*2^s)).length) hV)))) (32-bl ((limbs y).getD (((limbs y).length) -1) 0)) rfl))))))⟩)
abbrev Us:Ctr Tryz.prog:=FI.c ZQ
abbrev ZX:FI:=⟨129,[.mag,.mag],[(.n 1099511627776),(.n 1099511627776)],fun _=>[],fun b z=>(fun(x:Nat)(y:Nat)=> .c (.one (.dt .mag (.n (max (b0 b).nb (b1 b).nb)) (Nat.gcd x y)))) z.1 z.2⟩
theorem ZY:ZX.OK Tryz.prog:=jp hmix 61 Tryz.func129 rfl rfl (by decide) [(124,.c BI),(130,.c Us),(132,.c of_c),(133,.c DC),(150,.c W4)] (fun(x:Nat)(y:Nat) b hx hp=>qn (Oq (Bnds.h2 hx).1.mag (Bnds.h2 hx).2.mag) rfl) (fun(x:Nat)(y:Nat) hx hp=>by
 have hx0:qt x 1099511627776:=hx.1
 have hl0:(limbs x).length≤34359738369:=qg (q1E hx0)
 have hx1:qt y 1099511627776:=hx.2
 have hl1:(limbs y).length≤34359738369:=qg (q1E hx1)
 refine⟨.loop [.s 5 .mag (.n 1099511627776),.s 6 .mag (.n 1099511627776)] (fun((a,b):Nat×Nat)=>Nat.gcd a b=Nat.gcd x y) (fun((a,b):Nat×Nat)=>b) (fun((a,b):Nat×Nat)=> .cond (.nil) (.cond (.nil) (.cond (.loop [.s 13 (.nat .u64) (.n 18446744073709551615),.s 14 (.nat .u64) (.n 18446744073709551615)] (fun((u,v):Nat×Nat)=>Nat.gcd u v=Nat.gcd x y) (fun((u,v):Nat×Nat)=>v) (fun((u,v):Nat×Nat)=> .nil)) (.loop [.s 13 (.nat .u64) (.n 18446744073709551615),.s 14 (.nat .u64) (.n 18446744073709551615)] (fun((u,v):Nat×Nat)=>Nat.gcd u v=Nat.gcd x y) (fun((u,v):Nat×Nat)=>v) (fun((u,v):Nat×Nat)=> .nil))))),kcast (by kernel_rfl) (I (rfl:Nat.gcd x y=Nat.gcd x y) (fun(a:Nat)(b:Nat)(hb1:HB [.s 5 .mag (.n 1099511627776),.s 6 .mag (.n 1099511627776)] (a,b))(hC:Nat.gcd a b=Nat.gcd x y)=>Sp (2<(limbs b).length) (fun h2=>have hb0:=(show 0<b from q1W (fun e=>by have:=nl0.2 e;omega));I (hb0:0<b) (q0N ((zE a b).trans hC:Nat.gcd b (a%b)=Nat.gcd x y) (q1N _ hb0:a%b<b))) (fun h3=>Sp ((limbs b).length=0) (fun h4=>(by have e:=nl0.1 (show(limbs b).length=0 by omega);rw[e,Nat.gcd_zero_right]at hC;exact hC:a=Nat.gcd x y)) (fun h5=>Sp (2<(limbs a).length) (fun h6=>have hb0:=(show 0<b from q1W (fun e=>by have:=nl0.2 e;omega));I (hb0:0<b) (I (?_:(limbs b).length≤2) (I (?_:(limbs (a%b)).length≤2) (I (by first|exact hC|exact(zE a b).trans hC:Nat.gcd b (a%b)=Nat.gcd x y) (fun(u:Nat)(v:Nat)(hb7:HB [.s 13 (.nat .u64) (.n 18446744073709551615),.s 14 (.nat .u64) (.n 18446744073709551615)] (u,v))(hK:Nat.gcd u v=Nat.gcd x y)=>have hv10:=(show u≤18446744073709551615 from hb7.1);have hv11:=(show v≤18446744073709551615 from hb7.2);Sp (v≠0) (fun h8=>I (?_:0<v) (q0N ((zE u v).trans hK:Nat.gcd v (u%v)=Nat.gcd x y) (q1N _ (by omega):u%v<v))) (fun h9=>(by rw[show v=0 by omega,Nat.gcd_zero_right]at hK;exact hK:u=Nat.gcd x y))))))) (fun h12=>I (?_:(limbs a).length≤2) (I (?_:(limbs b).length≤2) (I (by first|exact hC|exact(zE a b).trans hC:Nat.gcd a b=Nat.gcd x y) (fun(u:Nat)(v:Nat)(hb13:HB [.s 13 (.nat .u64) (.n 18446744073709551615),.s 14 (.nat .u64) (.n 18446744073709551615)] (u,v))(hK:Nat.gcd u v=Nat.gcd x y)=>have hv16:=(show u≤18446744073709551615 from hb13.1);have hv17:=(show v≤18446744073709551615 from hb13.2);Sp (v≠0) (fun h14=>I (?_:0<v) (q0N ((zE u v).trans hK:Nat.gcd v (u%v)=Nat.gcd x y) (q1N _ (by omega):u%v<v))) (fun h15=>(by rw[show v=0 by omega,Nat.gcd_zero_right]at hK;exact hK:u=Nat.gcd x y))))))))))⟩<;>first|omega|(first|omega|exact q1H (vY (q1E (q1N a hb0))) (by omega)))
abbrev gcd_c:Ctr Tryz.prog:=FI.c ZY
abbrev YN:FI:=⟨103,[],[],fun _=>[],fun b z=> .c (.one (.dt .mag (.n (1)) (1)))⟩
theorem YO:YN.OK Tryz.prog:=jp hmix 2 Tryz.func103 rfl rfl (by decide) [] (fun  b hx hp=>qn (J0 rfl) rfl) (fun  hx hp=>by
 refine⟨.h 1 0 (.mk (.im (.nat .u32) (.n 4294967295))) (.h 1 1 (.mag 1 1) (.nil)),kcast (by kernel_rfl) (I (Cp.symm:[1]=limbs 1) (I (J0 rfl:qt 1 1) ((Eq.refl 1))))⟩)
abbrev S3:Ctr Tryz.prog:=FI.c YO
abbrev Wz:FI:=⟨102,[(.int .i64)],[(.n 9223372036854775807)],fun _=>[],fun b z=>(fun(v:Int)=> .c (.one (.dt .mag (.n (Nat.log2 (b0 b).nb+1)) (v.natAbs)))) z⟩
theorem WD:Wz.OK Tryz.prog:=jp hmix 12 Tryz.func102 rfl rfl (by decide) [(132,.c of_c)] (fun(v:Int) b hx hp=>qn (wy (Bnds.h1 hx).int) rfl) (fun(v:Int) hx hp=>by
 have hx0:Int.natAbs v≤9223372036854775807:=hx
 refine⟨.cond (.dead) (.h 3 4 (.i (.n v.natAbs 9223372036854775807)) (.nil)),kcast (by kernel_rfl) (Sp (v=(-9223372036854775808)) (fun h1=>(?_:False)) (fun h2=>I (by rw[show max v (-v)=((v.natAbs:Nat):Int) by omega];exact ws (by omega):IntKind.wrap .u64 (max v (-v))=((v.natAbs:Nat):Int)) (I (?_:v.natAbs≤9223372036854775807) ((Eq.refl v.natAbs)))))⟩<;>omega)
abbrev Wy:Ctr Tryz.prog:=FI.c WD
abbrev YD:FI:=⟨101,[.rat],[(.n 1099511627776)],fun _=>[],fun b z=>(fun(x:Rat)=> .c (.one (.dt .mag (.n ((b0 b).nb+1)) (x.den)))) z⟩
theorem YE:YD.OK Tryz.prog:=jp hmix 10 Tryz.func101 rfl rfl (by decide) [(103,.c S3)] (fun(x:Rat) b hx hp=>qn (Da (Bnds.h1 hx).rat.2) rfl) (fun(x:Rat) hx hp=>by
 have hx0:Bnd .rat (.n 1099511627776) x:=hx
 refine⟨.cond (.nil) (.h 3 2 (.mag x.den 1099511627777) (.nil)),kcast (by kernel_rfl) (Sp ((denL x.den).length=0) (fun h1=>((BT x.den_nz (by omega)).symm:1=x.den)) (fun h2=>I (DG (by omega):denL x.den=limbs x.den) (I (Da hx0.2:qt x.den 1099511627777) ((Eq.refl x.den)))))⟩)
abbrev Ig:Ctr Tryz.prog:=FI.c YE
abbrev YG:FI:=⟨127,[(.nat .u64),(.nat .u64)],[(.n 18446744073709551615),(.n 18446744073709551615)],fun _=>[],fun b z=>(fun(n:Nat)(d:Nat)=> .c (.one (.dt (.nat .u64) (.n (max (b0 b).nb (b1 b).nb)) (Nat.gcd n d)))) z.1 z.2⟩
theorem YH:YG.OK Tryz.prog:=jp hmix 12 Tryz.func127 rfl rfl (by decide) [] (fun(n:Nat)(d:Nat) b hx hp=>qn (Vw (Bnds.h2 hx).1.nat (Bnds.h2 hx).2.nat) rfl) (fun(n:Nat)(d:Nat) hx hp=>by
 have hx0:n≤18446744073709551615:=hx.1
 have hx1:d≤18446744073709551615:=hx.2
 refine⟨.loop [.s 0 (.nat .u64) (.n 18446744073709551615),.s 1 (.nat .u64) (.n 18446744073709551615)] (fun((u,v):Nat×Nat)=>Nat.gcd u v=Nat.gcd n d) (fun((u,v):Nat×Nat)=>v) (fun((u,v):Nat×Nat)=> .nil),kcast (by kernel_rfl) (I (rfl:Nat.gcd n d=Nat.gcd n d) (fun(u:Nat)(v:Nat)(hb1:HB [.s 0 (.nat .u64) (.n 18446744073709551615),.s 1 (.nat .u64) (.n 18446744073709551615)] (u,v))(hK:Nat.gcd u v=Nat.gcd n d)=>have hv4:=(show u≤18446744073709551615 from hb1.1);have hv5:=(show v≤18446744073709551615 from hb1.2);Sp (v≠0) (fun h2=>I (?_:0<v) (q0N ((zE u v).trans hK:Nat.gcd v (u%v)=Nat.gcd n d) (q1N _ (by omega):u%v<v))) (fun h3=>(by rw[show v=0 by omega,Nat.gcd_zero_right]at hK;exact hK:u=Nat.gcd n d))))⟩<;>omega)
abbrev YF:Ctr Tryz.prog:=FI.c YH
abbrev TU:FV:=⟨128,false,(.nat .u32),(.n 4294967295),1099511627776,[(.nat .u64)],[(.n 18446744073709551615)],fun l lo n cap z=>(fun(v:Nat)=>[2≤n,lo+2≤l.length,v≤18446744073709551615]) z,fun k b l lo n cap z=>(fun(v:Nat)=> .c (.one (.dt (.nat .i64) (.n 2) (nlw v)))) z,fun l lo n cap z=>(fun(v:Nat)=>v5 l lo v) z⟩
theorem TV:TU.OK Tryz.prog:=mkSl hmix 17 Tryz.func128 rfl rfl (by decide) [] (fun _=>rfl) (fun _ _ _ _ _=>rfl) (fun _ _ _ _ _ _ _=>rfl) (fun _ _ _ _ _ _=>rfl) (fun(l:List Nat)(lo n cap:Nat)(v:Nat) k b hx hs hn(hm:n≤1099511627776) hp=>⟨qn (Mb v).2 rfl,TJ (hp _ (q1i _ (q1i _ q1j))) hs⟩) (fun(l:List Nat)(lo n cap:Nat)(v:Nat) hs hx hn(hm:n≤1099511627776) hp=>by
 have hx0:v≤18446744073709551615:=hx
 have hp0:2≤n:=hp _ (q1j)
 have hp1:lo+2≤l.length:=hp _ (q1i _ (q1j))
 have hp2:v≤18446744073709551615:=hp _ (q1i _ (q1i _ (q1j)))
 refine⟨.nil,kcast (by kernel_rfl) (I (?_:0<n) (I (?_:lo+0<l.length) (Sp (v/2^32=0) (fun h1=>q0N (by rw[v5,if_pos (by assumption)]:l.set (lo+0) (v%4294967296)=v5 l lo v) ((by rw[nlw,if_pos (by assumption)]:1=nlw v))) (fun h2=>I (?_:1<n) (I (by simp only[List.length_set];omega:lo+1<(l.set (lo+0) (v%4294967296)).length) (q0N (by rw[v5,if_neg (by assumption)]:(l.set (lo+0) (v%4294967296)).set (lo+1) (v/2^32)=v5 l lo v) ((by rw[nlw,if_neg (by assumption)]:2=nlw v))))))))⟩<;>omega)
abbrev TT:CtrS Tryz.prog:=FV.c TV
abbrev WP:FI:=⟨98,[.bool,(.nat .u64),(.nat .u64)],[.u,(.n 18446744073709551615),(.n 18446744073709551615)],fun z=>(fun(neg:Bool)(n:Nat)(d:Nat)=>[0<d]) z.1 z.2.1 z.2.2,fun b z=>(fun(neg:Bool)(n:Nat)(d:Nat)=> .c (.agg [.dt .rat (.n (max (Nat.log2 (b1 b).nb+1) (Nat.log2 (b2 b).nb+1))) (qd neg n d)])) z.1 z.2.1 z.2.2⟩
theorem WQ:WP.OK Tryz.prog:=jp hmix 50 Tryz.func98 rfl rfl (by decide) [(127,.c YF),(128,.s TT)] (fun(neg:Bool)(n:Nat)(d:Nat) b hx hp=>vf (qz (qc (Nat.le_max_left _ _) (wy (Bnds.h3 hx).2.1.nat)) (qI (qc (Nat.le_max_right _ _) (wy (Bnds.h3 hx).2.2.nat))) (hp _ q1j))) (fun(neg:Bool)(n:Nat)(d:Nat) hx hp=>by
 have hx1:n≤18446744073709551615:=hx.2.1
 have hx2:d≤18446744073709551615:=hx.2.2
 have hp0:0<d:=hp _ (q1j)
 refine⟨.cond (.nil) ((fun(g:Nat)=>(fun(n1:Nat)=>(fun(d1:Nat)=> .h 5 0 (.mk (.arr (.nat .u32) (.n 4294967295))) ((fun(a:Nat)=> .cond ((fun(b:Nat)=> .pre 11 (.frz 24 false []) (.h 11 0 (.rat (qd neg n d) 64) (.nil))) (a+(nlw d1))) (.pre 11 (.frz 24 false []) (.h 11 0 (.rat (qd neg n d) 64) (.nil)))) (nlw n1))) (d/g)) (n/g)) (Nat.gcd n d)),kcast (by kernel_rfl) (q0N (fun(h1:n=0)=>(by rw[show n=0 by omega,A6]:0=qd neg n d)) (fun(h2: ¬(n=0))=>(fun(g:Nat)(hg:g=Nat.gcd n d)=>have hg0:=(show 0<g from hg▸Nat.gcd_pos_of_pos_right _ hp0);I (by omega:0<g) (I (by omega:0<g) ((fun(n1:Nat)(hn1:n1=n/g)=>(fun(d1:Nat)(hd1:d1=d/g)=>have hn0:=(show 0<n1 from by rw[hn1,hg];exact Nat.div_pos (Nat.gcd_le_left _ (by omega)) (hg▸hg0));have hd0:=(show 0<d1 from by rw[hd1,hg];exact Nat.div_pos (Nat.gcd_le_right _ (by omega)) (hg▸hg0));have hn9:=(show n1≤18446744073709551615 from by rw[hn1];exact q1H (q1y _ _) hx1);have hd9:=(show d1≤18446744073709551615 from by rw[hd1];exact q1H (q1y _ _) hx2);I (by omega:2≤4) (I (by simp:0+2≤(List.replicate 4 (0:Nat)).length) (I (by omega:n1≤18446744073709551615) ((fun(a:Nat)(ha:a=nlw n1)=>have ha1:=(show 1≤a∧a≤2 from by rw[ha];exact Mb n1);have hL:=(show(v5 (List.replicate 4 (0:Nat)) 0 n1).length=4 from Mv _ _ _);I (by omega:a≤4) (I (by omega:a=a) (q0N (fun(h3:1<d1)=>I (by omega:a≤4) (I (by omega:a<4) (I (by omega:2≤4-a) (I (by omega:a+2≤(v5 (List.replicate 4 (0:Nat)) 0 n1).length) (I (by omega:d1≤18446744073709551615) ((fun(b:Nat)(hb:b=a+(nlw d1))=>have hb1:=Mb d1;have hL2:=(show(v5 (v5 (List.replicate 4 (0:Nat)) 0 n1) a d1).length=4 from(Mv _ _ _).trans hL);I (by omega:a<b) (I (by omega:b≤4) (I (by omega:b=b) (I (by omega:a≤(v5 (v5 (List.replicate 4 (0:Nat)) 0 n1) a d1).length) (I (by omega:a+(b-a)≤(v5 (v5 (List.replicate 4 (0:Nat)) 0 n1) a d1).length) (I ((jr (by omega) hp0).symm:neg=decide ((qd neg n d).num<0)) (I (by rw[jg hp0,←hg,←hn1];subst ha;first|exact MI hn0 hn9|exact OT hn0 hn9:(v5 (v5 (List.replicate 4 (0:Nat)) 0 n1) a d1).take a=limbs ((qd neg n d).num.natAbs)) (I (by rw[(j0 hp0).2,←hg,←hd1,denL,if_neg (by omega)];subst hb ha;exact WO hd0 hd9:((v5 (v5 (List.replicate 4 (0:Nat)) 0 n1) a d1).drop a).take (b-a)=denL (qd neg n d).den) (I (by rw[jg hp0,←hg,←hn1];exact q1I hn9 (by decide):qt (qd neg n d).num.natAbs 64) (I (by rw[(j0 hp0).2,←hg,←hd1];exact q1H hd9 (by decide):le2 (qd neg n d).den 64) ((Eq.refl (qd neg n d))))))))))))) (a+(nlw d1)) rfl)))))) (fun(h4: ¬(1<d1))=>I (by omega:a≤(v5 (List.replicate 4 (0:Nat)) 0 n1).length) (I ((jr (by omega) hp0).symm:neg=decide ((qd neg n d).num<0)) (I (by rw[jg hp0,←hg,←hn1];subst ha;first|exact MI hn0 hn9|exact OT hn0 hn9:(v5 (List.replicate 4 (0:Nat)) 0 n1).take a=limbs ((qd neg n d).num.natAbs)) (I (by rw[(j0 hp0).2,←hg,←hd1];omega:(qd neg n d).den=1) (I (by rw[jg hp0,←hg,←hn1];exact q1I hn9 (by decide):qt (qd neg n d).num.natAbs 64) (I (by rw[(j0 hp0).2,←hg,←hd1];exact q1H hd9 (by decide):le2 (qd neg n d).den 64) ((Eq.refl (qd neg n d)))))))))))) (nlw n1) rfl)))) (d/g) rfl) (n/g) rfl))) (Nat.gcd n d) rfl))⟩)
abbrev G5:Ctr Tryz.prog:=FI.c WQ
abbrev Wb:FI:=⟨97,[.rat],[(.n 1099511627776)],fun _=>[],fun b z=>(fun(x:Rat)=> .tup [.one (.dt (.nat .u64) (.n 4294967295) (pn x)),.one (.dt (.nat .u64) (.n 4294967295) (pd x)),.one (.dt .bool .u (pb x))]) z⟩
theorem Wc:Wb.OK Tryz.prog:=jp hmix 30 Tryz.func97 rfl rfl (by decide) [(126,.c OQ)] (fun(x:Rat) b hx hp=>j8 (qn (Ic x) rfl) (j8 (qn (Ia x) rfl) (j8 (qn trivial rfl) z5))) (fun(x:Rat) hx hp=>by
 refine⟨.nil,kcast (by kernel_rfl) (Sp (1<(limbs x.num.natAbs).length) (fun h1=>q0N ((FY (by first|exact .inl (by assumption)|exact .inr (by assumption))).1:0=pn x) (q0N ((FY (by first|exact .inl (by assumption)|exact .inr (by assumption))).2.1:0=pd x) ((FY (by first|exact .inl (by assumption)|exact .inr (by assumption))).2.2:false=pb x))) (fun h2=>Sp (1<(denL x.den).length) (fun h3=>q0N ((FY (by first|exact .inl (by assumption)|exact .inr (by assumption))).1:0=pn x) (q0N ((FY (by first|exact .inl (by assumption)|exact .inr (by assumption))).2.1:0=pd x) ((FY (by first|exact .inl (by assumption)|exact .inr (by assumption))).2.2:false=pb x))) (fun h4=>have hs:=p_sm (x:=x) (by unfold bigQ;omega);Sp ((denL x.den).length=1) (fun h5=>I (?_:0<(denL x.den).length) (I (?_:(limbs x.num.natAbs).length≤2) (q0N (hs.1:x.num.natAbs=pn x) (q0N (by have:=hs.2.1;have:= @QK x.den (by omega);omega:(denL x.den).getD 0 0=pd x) (by rw[hs.2.2];have:= @QK x.den (by omega);have:=x.den_nz;exact decide_eq_true (by omega):decide ((denL x.den).getD 0 0≠0)=pb x))))) (fun h6=>I (?_:(limbs x.num.natAbs).length≤2) (q0N (hs.1:x.num.natAbs=pn x) (q0N (by rw[←hs.2.1];exact(BT x.den_nz (by omega)).symm:1=pd x) (by rw[hs.2.2]:true=pb x)))))))⟩<;>omega)
abbrev G0:Ctr Tryz.prog:=FI.c Wc
abbrev TO:FI:=⟨99,[.bool,.mag,.mag],[.u,(.n 1099511627776),(.n 1099511627776)],fun _=>[],fun b z=>(fun(neg:Bool)(n:Nat)(d:Nat)=> .c (.agg [.dt .rat (.n (max (b1 b).nb (b2 b).nb)) (qd neg n d)])) z.1 z.2.1 z.2.2⟩
theorem TP:TO.OK Tryz.prog:=jp hmix 68 Tryz.func99 rfl rfl (by decide) [(96,.c Qv),(98,.c G5),(126,.c OQ),(129,.c gcd_c),(130,.c Us),(131,.c add_c)] (fun(neg:Bool)(n:Nat)(d:Nat) b hx hp=>vf (ME (qc (Nat.le_max_left _ _) (Bnds.h3 hx).2.1.mag) (qc (Nat.le_max_right _ _) (Bnds.h3 hx).2.2.mag))) (fun(neg:Bool)(n:Nat)(d:Nat) hx hp=>by
 have hx1:qt n 1099511627776:=hx.2.1
 have hl1:(limbs n).length≤34359738369:=qg (q1E hx1)
 have hx2:qt d 1099511627776:=hx.2.2
 have hl2:(limbs d).length≤34359738369:=qg (q1E hx2)
 refine⟨.cond (.nil) (.cond (.nil) (.cond (.cond (.nil) ((fun(g:Nat)=> .cond (.cond (.cond (.h 12 3 (.rat (qd neg n d) 1099511627776) (.nil)) (.h 12 3 (.rat (qd neg n d) 1099511627776) (.nil))) (.h 12 3 (.rat (qd neg n d) 1099511627776) (.nil))) (.cond (.cond (.h 12 3 (.rat (qd neg n d) 1099511627776) (.nil)) (.h 12 3 (.rat (qd neg n d) 1099511627776) (.nil))) (.h 12 3 (.rat (qd neg n d) 1099511627776) (.nil)))) (Nat.gcd n d))) ((fun(g:Nat)=> .cond (.cond (.cond (.h 12 3 (.rat (qd neg n d) 1099511627776) (.nil)) (.h 12 3 (.rat (qd neg n d) 1099511627776) (.nil))) (.h 12 3 (.rat (qd neg n d) 1099511627776) (.nil))) (.cond (.cond (.h 12 3 (.rat (qd neg n d) 1099511627776) (.nil)) (.h 12 3 (.rat (qd neg n d) 1099511627776) (.nil))) (.h 12 3 (.rat (qd neg n d) 1099511627776) (.nil)))) (Nat.gcd n d)))),kcast (by kernel_rfl) (q0N (fun(h1:bl n=0)=>(by first|rw[Aj.1 (show bl n=0 by omega),A6]|rw[Aj.1 (show bl d=0 by omega),Ff]:0=qd neg n d)) (fun(h2: ¬(bl n=0))=>q0N (fun(h3:bl d=0)=>(by first|rw[Aj.1 (show bl n=0 by omega),A6]|rw[Aj.1 (show bl d=0 by omega),Ff]:0=qd neg n d)) (fun(h4: ¬(bl d=0))=>have hn0:=(show 0<n from q1W (mt Aj.2 (by omega)));have hd0:=(show 0<d from q1W (mt Aj.2 (by omega)));q0N (fun(h5:(limbs n).length≤2)=>q0N (fun(h6:(limbs d).length≤2)=>I (by omega:(limbs n).length≤2) (I (by omega:(limbs d).length≤2) (I (by omega:0<d) ((Eq.refl (qd neg n d)))))) (fun(h7: ¬((limbs d).length≤2))=>(fun(g:Nat)(hg:g=Nat.gcd n d)=>have hg0:=(show 0<g from hg▸Nat.gcd_pos_of_pos_right _ hd0);q0N (fun(h8:1<bl g)=>I (by omega:0<g) (I (by omega:0<g) (q0N (fun(h9:(limbs ((d/g)+0)).length=1)=>I (by omega:0<(limbs ((d/g)+0)).length) (q0N (fun(h10:(limbs ((d/g)+0)).getD 0 0=1)=>I ((jr hn0 hd0).symm:neg=decide ((qd neg n d).num<0)) (I (by rw[jg hd0,←hg];first|rfl|rw[hg1,q1A];rfl:(n/g)+0=(qd neg n d).num.natAbs) (I (by rw[(j0 hd0).2,←hg];first|exact z0 (by omega) (by omega)|(rw[hg1,q1A];exact z0 (by omega) (by omega)):(qd neg n d).den=1) (I ((qz (p:=1099511627776) (qc (by decide) hx1) (qI (qc (by decide) hx2)) hd0).1:qt (qd neg n d).num.natAbs 1099511627776) (I ((qz (p:=1099511627776) (qc (by decide) hx1) (qI (qc (by decide) hx2)) hd0).2:le2 (qd neg n d).den 1099511627776) ((Eq.refl (qd neg n d)))))))) (fun(h11: ¬((limbs ((d/g)+0)).getD 0 0=1))=>I ((jr hn0 hd0).symm:neg=decide ((qd neg n d).num<0)) (I (by rw[jg hd0,←hg];first|rfl|rw[hg1,q1A];rfl:(n/g)+0=(qd neg n d).num.natAbs) (I (vx (by rw[(j0 hd0).2,←hg];first|rfl|rw[hg1,q1A];rfl) (by omega):limbs ((d/g)+0)=denL (qd neg n d).den) (I ((qz (p:=1099511627776) (qc (by decide) hx1) (qI (qc (by decide) hx2)) hd0).1:qt (qd neg n d).num.natAbs 1099511627776) (I ((qz (p:=1099511627776) (qc (by decide) hx1) (qI (qc (by decide) hx2)) hd0).2:le2 (qd neg n d).den 1099511627776) ((Eq.refl (qd neg n d)))))))))) (fun(h12: ¬((limbs ((d/g)+0)).length=1))=>I ((jr hn0 hd0).symm:neg=decide ((qd neg n d).num<0)) (I (by rw[jg hd0,←hg];first|rfl|rw[hg1,q1A];rfl:(n/g)+0=(qd neg n d).num.natAbs) (I (vx (by rw[(j0 hd0).2,←hg];first|rfl|rw[hg1,q1A];rfl) (by omega):limbs ((d/g)+0)=denL (qd neg n d).den) (I ((qz (p:=1099511627776) (qc (by decide) hx1) (qI (qc (by decide) hx2)) hd0).1:qt (qd neg n d).num.natAbs 1099511627776) (I ((qz (p:=1099511627776) (qc (by decide) hx1) (qI (qc (by decide) hx2)) hd0).2:le2 (qd neg n d).den 1099511627776) ((Eq.refl (qd neg n d))))))))))) (fun(h13: ¬(1<bl g))=>have hg1:=(Qx hg0 (by omega):g=1);q0N (fun(h14:(limbs (d+0)).length=1)=>I (by omega:0<(limbs (d+0)).length) (q0N (fun(h15:(limbs (d+0)).getD 0 0=1)=>I ((jr hn0 hd0).symm:neg=decide ((qd neg n d).num<0)) (I (by rw[jg hd0,←hg];first|rfl|rw[hg1,q1A];rfl:n+0=(qd neg n d).num.natAbs) (I (by rw[(j0 hd0).2,←hg];first|exact z0 (by omega) (by omega)|(rw[hg1,q1A];exact z0 (by omega) (by omega)):(qd neg n d).den=1) (I ((qz (p:=1099511627776) (qc (by decide) hx1) (qI (qc (by decide) hx2)) hd0).1:qt (qd neg n d).num.natAbs 1099511627776) (I ((qz (p:=1099511627776) (qc (by decide) hx1) (qI (qc (by decide) hx2)) hd0).2:le2 (qd neg n d).den 1099511627776) ((Eq.refl (qd neg n d)))))))) (fun(h16: ¬((limbs (d+0)).getD 0 0=1))=>I ((jr hn0 hd0).symm:neg=decide ((qd neg n d).num<0)) (I (by rw[jg hd0,←hg];first|rfl|rw[hg1,q1A];rfl:n+0=(qd neg n d).num.natAbs) (I (vx (by rw[(j0 hd0).2,←hg];first|rfl|rw[hg1,q1A];rfl) (by omega):limbs (d+0)=denL (qd neg n d).den) (I ((qz (p:=1099511627776) (qc (by decide) hx1) (qI (qc (by decide) hx2)) hd0).1:qt (qd neg n d).num.natAbs 1099511627776) (I ((qz (p:=1099511627776) (qc (by decide) hx1) (qI (qc (by decide) hx2)) hd0).2:le2 (qd neg n d).den 1099511627776) ((Eq.refl (qd neg n d)))))))))) (fun(h17: ¬((limbs (d+0)).length=1))=>I ((jr hn0 hd0).symm:neg=decide ((qd neg n d).num<0)) (I (by rw[jg hd0,←hg];first|rfl|rw[hg1,q1A];rfl:n+0=(qd neg n d).num.natAbs) (I (vx (by rw[(j0 hd0).2,←hg];first|rfl|rw[hg1,q1A];rfl) (by omega):limbs (d+0)=denL (qd neg n d).den) (I ((qz (p:=1099511627776) (qc (by decide) hx1) (qI (qc (by decide) hx2)) hd0).1:qt (qd neg n d).num.natAbs 1099511627776) (I ((qz (p:=1099511627776) (qc (by decide) hx1) (qI (qc (by decide) hx2)) hd0).2:le2 (qd neg n d).den 1099511627776) ((Eq.refl (qd neg n d)))))))))) (Nat.gcd n d) rfl)) (fun(h18: ¬((limbs n).length≤2))=>(fun(g:Nat)(hg:g=Nat.gcd n d)=>have hg0:=(show 0<g from hg▸Nat.gcd_pos_of_pos_right _ hd0);q0N (fun(h19:1<bl g)=>I (by omega:0<g) (I (by omega:0<g) (q0N (fun(h20:(limbs ((d/g)+0)).length=1)=>I (by omega:0<(limbs ((d/g)+0)).length) (q0N (fun(h21:(limbs ((d/g)+0)).getD 0 0=1)=>I ((jr hn0 hd0).symm:neg=decide ((qd neg n d).num<0)) (I (by rw[jg hd0,←hg];first|rfl|rw[hg1,q1A];rfl:(n/g)+0=(qd neg n d).num.natAbs) (I (by rw[(j0 hd0).2,←hg];first|exact z0 (by omega) (by omega)|(rw[hg1,q1A];exact z0 (by omega) (by omega)):(qd neg n d).den=1) (I ((qz (p:=1099511627776) (qc (by decide) hx1) (qI (qc (by decide) hx2)) hd0).1:qt (qd neg n d).num.natAbs 1099511627776) (I ((qz (p:=1099511627776) (qc (by decide) hx1) (qI (qc (by decide) hx2)) hd0).2:le2 (qd neg n d).den 1099511627776) ((Eq.refl (qd neg n d)))))))) (fun(h22: ¬((limbs ((d/g)+0)).getD 0 0=1))=>I ((jr hn0 hd0).symm:neg=decide ((qd neg n d).num<0)) (I (by rw[jg hd0,←hg];first|rfl|rw[hg1,q1A];rfl:(n/g)+0=(qd neg n d).num.natAbs) (I (vx (by rw[(j0 hd0).2,←hg];first|rfl|rw[hg1,q1A];rfl) (by omega):limbs ((d/g)+0)=denL (qd neg n d).den) (I ((qz (p:=1099511627776) (qc (by decide) hx1) (qI (qc (by decide) hx2)) hd0).1:qt (qd neg n d).num.natAbs 1099511627776) (I ((qz (p:=1099511627776) (qc (by decide) hx1) (qI (qc (by decide) hx2)) hd0).2:le2 (qd neg n d).den 1099511627776) ((Eq.refl (qd neg n d)))))))))) (fun(h23: ¬((limbs ((d/g)+0)).length=1))=>I ((jr hn0 hd0).symm:neg=decide ((qd neg n d).num<0)) (I (by rw[jg hd0,←hg];first|rfl|rw[hg1,q1A];rfl:(n/g)+0=(qd neg n d).num.natAbs) (I (vx (by rw[(j0 hd0).2,←hg];first|rfl|rw[hg1,q1A];rfl) (by omega):limbs ((d/g)+0)=denL (qd neg n d).den) (I ((qz (p:=1099511627776) (qc (by decide) hx1) (qI (qc (by decide) hx2)) hd0).1:qt (qd neg n d).num.natAbs 1099511627776) (I ((qz (p:=1099511627776) (qc (by decide) hx1) (qI (qc (by decide) hx2)) hd0).2:le2 (qd neg n d).den 1099511627776) ((Eq.refl (qd neg n d))))))))))) (fun(h24: ¬(1<bl g))=>have hg1:=(Qx hg0 (by omega):g=1);q0N (fun(h25:(limbs (d+0)).length=1)=>I (by omega:0<(limbs (d+0)).length) (q0N (fun(h26:(limbs (d+0)).getD 0 0=1)=>I ((jr hn0 hd0).symm:neg=decide ((qd neg n d).num<0)) (I (by rw[jg hd0,←hg];first|rfl|rw[hg1,q1A];rfl:n+0=(qd neg n d).num.natAbs) (I (by rw[(j0 hd0).2,←hg];first|exact z0 (by omega) (by omega)|(rw[hg1,q1A];exact z0 (by omega) (by omega)):(qd neg n d).den=1) (I ((qz (p:=1099511627776) (qc (by decide) hx1) (qI (qc (by decide) hx2)) hd0).1:qt (qd neg n d).num.natAbs 1099511627776) (I ((qz (p:=1099511627776) (qc (by decide) hx1) (qI (qc (by decide) hx2)) hd0).2:le2 (qd neg n d).den 1099511627776) ((Eq.refl (qd neg n d)))))))) (fun(h27: ¬((limbs (d+0)).getD 0 0=1))=>I ((jr hn0 hd0).symm:neg=decide ((qd neg n d).num<0)) (I (by rw[jg hd0,←hg];first|rfl|rw[hg1,q1A];rfl:n+0=(qd neg n d).num.natAbs) (I (vx (by rw[(j0 hd0).2,←hg];first|rfl|rw[hg1,q1A];rfl) (by omega):limbs (d+0)=denL (qd neg n d).den) (I ((qz (p:=1099511627776) (qc (by decide) hx1) (qI (qc (by decide) hx2)) hd0).1:qt (qd neg n d).num.natAbs 1099511627776) (I ((qz (p:=1099511627776) (qc (by decide) hx1) (qI (qc (by decide) hx2)) hd0).2:le2 (qd neg n d).den 1099511627776) ((Eq.refl (qd neg n d)))))))))) (fun(h28: ¬((limbs (d+0)).length=1))=>I ((jr hn0 hd0).symm:neg=decide ((qd neg n d).num<0)) (I (by rw[jg hd0,←hg];first|rfl|rw[hg1,q1A];rfl:n+0=(qd neg n d).num.natAbs) (I (vx (by rw[(j0 hd0).2,←hg];first|rfl|rw[hg1,q1A];rfl) (by omega):limbs (d+0)=denL (qd neg n d).den) (I ((qz (p:=1099511627776) (qc (by decide) hx1) (qI (qc (by decide) hx2)) hd0).1:qt (qd neg n d).num.natAbs 1099511627776) (I ((qz (p:=1099511627776) (qc (by decide) hx1) (qI (qc (by decide) hx2)) hd0).2:le2 (qd neg n d).den 1099511627776) ((Eq.refl (qd neg n d)))))))))) (Nat.gcd n d) rfl))))⟩)
abbrev Ee:Ctr Tryz.prog:=FI.c TP
abbrev ZS:FI:=⟨118,[(.sl (.nat .u32)),(.sl (.nat .u32))],[(.s 1099511627776 (.n 4294967295)),(.s 1099511627776 (.n 4294967295))],fun _=>[],fun b z=>(fun(l:List Nat)(m:List Nat)=> .c (.one (.dt .bool .u (decide (l=m))))) z.1 z.2⟩
theorem ZT:ZS.OK Tryz.prog:=jp hmix 26 Tryz.func118 rfl rfl (by decide) [] (fun(l:List Nat)(m:List Nat) b hx hp=>qn trivial rfl) (fun(l:List Nat)(m:List Nat) hx hp=>by
 have hl0:l.length≤1099511627776:=hx.1.1
 have hl1:m.length≤1099511627776:=hx.2.1
 refine⟨.cond (.nil) (.loop [.s 13 (.nat .i64) (.n 1099511627776)] (fun(i:Nat)=>i≤l.length∧l.take i=m.take i) (fun(i:Nat)=>l.length-i) (fun(i:Nat)=> .nil)),kcast (by kernel_rfl) (Sp (l.length≠m.length) (fun h1=>((decide_eq_false (by first|exact(II (by omega) hC.2 (by omega)).2 (by omega)|exact fun e=>absurd (congrArg List.length e) (by assumption))).symm:false=decide (l=m))) (fun h2=>I (⟨q23 _,rfl⟩:0≤l.length∧l.take 0=m.take 0) (fun(i:Nat)(hb3:HB [.s 13 (.nat .i64) (.n 1099511627776)] i)(hC:i≤l.length∧l.take i=m.take i)=>have hv8:=(show i≤1099511627776 from hb3);Sp (i<l.length) (fun h4=>I (?_:i<l.length) (I (?_:i<m.length) (Sp (l.getD i 0≠m.getD i 0) (fun h5=>((decide_eq_false (by first|exact(II (by omega) hC.2 (by omega)).2 (by omega)|exact fun e=>absurd (congrArg List.length e) (by assumption))).symm:false=decide (l=m))) (fun h6=>I (show(i+1)≤1099511627776 by omega:Bnd (.nat .i64) (.n 1099511627776) (i+1)) (q0N (⟨by omega,(II (by omega) hC.2 (by omega)).1 (by omega)⟩:(i+1)≤l.length∧l.take (i+1)=m.take (i+1)) (?_:l.length-(i+1)<l.length-i)))))) (fun h7=>((decide_eq_true (by have:=hC.2;rwa [q1s (by omega),q1s (by omega)]at this)).symm:true=decide (l=m))))))⟩<;>omega)
abbrev Pl:Ctr Tryz.prog:=FI.c ZT
abbrev Wx:FI:=⟨62,[.rat],[(.n 68719476736)],fun _=>[],fun b z=>(fun(x:Rat)=> .c (.one (.dt (.int .i64) (.n 1) (jv x)))) z⟩
theorem ON:Wx.OK Tryz.prog:=jp hmix 11 Tryz.func62 rfl rfl (by decide) [(96,.c Qv)] (fun(x:Rat) b hx hp=>qn (MG x) rfl) (fun(x:Rat) hx hp=>by
 refine⟨.nil,kcast (by kernel_rfl) (Sp (bl x.num.natAbs=0) (fun h1=>(by rw[jv,if_pos (Aj.1 (by omega))]:0=jv x)) (fun h2=>Sp (x.num<0) (fun h3=>(by rw[jv,if_neg (fun e=>absurd (Aj.2 e) (by omega)),if_pos (by assumption)]:(-1)=jv x)) (fun h4=>(by rw[jv,if_neg (fun e=>absurd (Aj.2 e) (by omega)),if_neg (by assumption)]:1=jv x))))⟩)
abbrev OM:Ctr Tryz.prog:=FI.c ON
abbrev YJ:FI:=⟨64,[(.int .i64)],[(.n 9223372036854775807)],fun _=>[],fun b z=>(fun(v:Int)=> .c (.agg [.dt .rat (.n (Nat.log2 (b0 b).nb+1)) ((v:Rat))])) z⟩
theorem YK:YJ.OK Tryz.prog:=jp hmix 9 Tryz.func64 rfl rfl (by decide) [(99,.c Ee),(102,.c Wy),(103,.c S3)] (fun(v:Int) b hx hp=>vf (O5 (Bnds.h1 hx).int)) (fun(v:Int) hx hp=>by
 refine⟨.nil,kcast (by kernel_rfl) ((OS v:qd (decide (v<0)) v.natAbs 1=(v:Rat)))⟩)
abbrev YL:FI:=⟨67,[.rat,.rat],[(.n 68719476736),(.n 68719476736)],fun _=>[],fun b z=>(fun(x:Rat)(y:Rat)=> .c (.agg [.dt .rat (.n ((b0 b).nb+(b1 b).nb)) (x*y)])) z.1 z.2⟩
theorem YM:YL.OK Tryz.prog:=jp hmix 64 Tryz.func67 rfl rfl (by decide) [(97,.c G0),(98,.c G5),(99,.c Ee),(100,.c mul_c),(101,.c Ig)] (fun(x:Rat)(y:Rat) b hx hp=>vf (Gi (Bnds.h2 hx).1 (Bnds.h2 hx).2)) (fun(x:Rat)(y:Rat) hx hp=>by
 refine⟨.nil,kcast (by kernel_rfl) (Sp ((limbs x.num.natAbs).length=0) (fun h1=>(?_:0=x*y)) (fun h2=>Sp ((limbs y.num.natAbs).length=0) (fun h3=>(?_:0=x*y)) (fun h4=>Sp (pb x=true) (fun h5=>Sp (pb y=true) (fun h6=>have hpx:=Cv (x:=x) (by assumption);have hpy:=Cv (x:=y) (by assumption);I (q1V hpx.2.2 hpy.2.2:0<(pd x)*(pd y)) ((?_:qd (decide ((decide (x.num<0))≠(decide (y.num<0)))) ((pn x)*(pn y)) ((pd x)*(pd y))=x*y))) (fun h7=>(?_:qd (decide ((decide (x.num<0))≠(decide (y.num<0)))) (x.num.natAbs*y.num.natAbs) (x.den*y.den)=x*y))) (fun h8=>(?_:qd (decide ((decide (x.num<0))≠(decide (y.num<0)))) (x.num.natAbs*y.num.natAbs) (x.den*y.den)=x*y)))))⟩<;>first|(first|rw[A5 (nl0.1 (show(limbs x.num.natAbs).length=0 by omega)),Rat.zero_mul]|rw[A5 (nl0.1 (show(limbs y.num.natAbs).length=0 by omega)),Rat.mul_zero])|(first|exact Dj x y|(rw[hpx.1,hpy.1,hpx.2.1,hpy.2.1];exact Dj x y)))
abbrev q2m:Ctr Tryz.prog:=FI.c YM
def Un:Array Value→Sem Value:=fun args=>do
 let(x,y,c)←Extern.MathBitsCarry.three "Add64" args
 pure (Extern.MathBitsCarry.pair ((x+y+c)%Extern.MathBitsCarry.m64) ((x+y+c)/Extern.MathBitsCarry.m64))
theorem Tl:Extern.findNext Tryz.f155=none:=by kernel_rfl
theorem Vq:Extern.find Tryz.f155=some Un:=by kernel_rfl
theorem S5(a b:Nat)(w:World):(Un #[.int .u64 (a:Int),.int .u64 (b:Int),.int .u64 0]).run Tryz.prog w= .ok (Extern.MathBitsCarry.pair ((a+b)%18446744073709551616) ((a+b)/18446744073709551616)) w:=by
 kernel_rfl
theorem TE{fx x y z:Operand}{ts:Array TypeId}{ty:TypeId}{a b:Nat}:
  OpOk Tryz.prog (.call {callee:= .value fx,args:= #[x,y,z],argTypes:=ts}) ty [(fx,vFun 155),(x,qf .u64 a),(y,qf .u64 b),(z,qf .u64 0)] []
   (.tup [.one (.val (.int .u64 (((a+b)%18446744073709551616:Nat):Int))),.one (.val (.int .u64 (((a+b)/18446744073709551616:Nat):Int)))]) []:=
 qp fun ac w H β hins _ _=>by
  have hf:=(hins (fx,vFun 155) (by simp)).1
  have hx:=(hins (x,qf .u64 a) (by simp)).1
  have hy:=(hins (y,qf .u64 b) (by simp)).1
  have hz:=(hins (z,qf .u64 0) (by simp)).1
  simp only at hf hx hy hz
  refine⟨Extern.MathBitsCarry.pair ((a+b)%18446744073709551616) ((a+b)/18446744073709551616),?_,fun _ _ _ _=>?_⟩
  ·exact⟨_,rfl,⟨⟨rfl,rfl⟩,⟨⟨rfl,rfl⟩,trivial⟩⟩⟩
  ·have hb: Tryz.f155.body.isNone=true:=by kernel_rfl
   have hn:(Tryz.f155.name== "runtime.NumGoroutine")=false:=by kernel_rfl
   simp only[execOp,resolve,hf,Deferred.ofValue,q2a,q2b,q29,invoke,callFunc,run_program,Tryz.func155,hb,hn,q0Q,if_false,if_true,Tl,Vq]
   rw[show(#[]++Array.map ac.eval #[x,y,z]++ #[]:Array Value)= #[.int .u64 (a:Int),.int .u64 (b:Int),.int .u64 0] by simp[hx,hy,hz]]
   rw[show Sem.run Tryz.prog (mark (Mark.extern 155)) w= .ok () w from rfl]
   simp only[q29,S5]
abbrev Yz:FI:=⟨140,[.rat,.rat,.bool],[(.n 68719476736),(.n 68719476736),.u],fun _=>[],fun b z=>(fun(x:Rat)(y:Rat)(s:Bool)=> .c (.agg [.dt .rat (.n ((b0 b).nb+(b1 b).nb+1)) (x+yQ s y)])) z.1 z.2.1 z.2.2⟩
theorem YA:Yz.OK Tryz.prog:=jp hmix 152 Tryz.func140 rfl rfl (by decide) [(97,.c G0),(98,.c G5),(99,.c Ee),(100,.c mul_c),(101,.c Ig),(118,.c Pl),(131,.c add_c),(156,.c q0B)] (fun(x:Rat)(y:Rat)(s:Bool) b hx hp=>vf (IA (Bnds.h3 hx).1 (Bnds.h3 hx).2.1)) (fun(x:Rat)(y:Rat)(s:Bool) hx hp=>by
 refine⟨.cond (.cond (.h 6 2 (.any [.c (.one (.vl (.func (.func 155) #[] #[]))),.c (.one (.dt (.nat .u64) (.n 18446744065119617025) ((pn x)*(pd y)))),.c (.one (.dt (.nat .u64) (.n 18446744065119617025) ((pn y)*(pd x)))),.c (.one (.kn .u64 0))] (.tup [(.one (.dt (.nat .u64) (.n 18446744073709551615) ((((pn x)*(pd y))+((pn y)*(pd x)))%18446744073709551616))),(.one (.dt (.nat .u64) (.n 1) (cy ((pn x)*(pd y)) ((pn y)*(pd x)))))]) (j8 (qn (q1F (q1N _ (by decide))) rfl) (j8 (qn (ZO (q1S (Ic x) (Ia y)) (q1S (Ic y) (Ia x))) rfl) z5)) (Op.call {callee:= .value (.func 155),args:= #[.tmp 43,.tmp 44,.const (.int .u64 0)],argTypes:= #[108,108,108]}) (fun _=>TE (a:=(pn x)*(pd y)) (b:=(pn y)*(pd x)))) (.cond (.cond (.nil) (.cond (.cond (.h 10 4 (.i .sub) (.nil)) (.cond (.h 12 3 (.i .sub) (.nil)) (.nil))) (.cond (.h 12 3 (.i .sub) (.nil)) (.nil)))) (.cond (.cond (.h 10 4 (.i .sub) (.nil)) (.cond (.h 12 3 (.i .sub) (.nil)) (.nil))) (.cond (.h 12 3 (.i .sub) (.nil)) (.nil))))) (.nil)) (.nil),kcast (by kernel_rfl) (Sp (pb x=true) (fun h1=>Sp (pb y=true) (fun h2=>have hpx:=Cv (x:=x) (by assumption);have hpy:=Cv (x:=y) (by assumption);have hx8:=Ic x;have hx9:=Ia x;have hy8:=Ic y;have hy9:=Ia y;have hm1:=q1S hx8 hy9;have hm2:=q1S hy8 hx9;have hpp:=q1V hpx.2.2 hpy.2.2;I (rfl:([.c (.one (.vl (.func (.func 155) #[] #[]))),.c (.one (.dt (.nat .u64) (.n 18446744065119617025) ((pn x)*(pd y)))),.c (.one (.dt (.nat .u64) (.n 18446744065119617025) ((pn y)*(pd x)))),.c (.one (.kn .u64 0))]:List WV)=[.c (.one (.vl (.func (.func 155) #[] #[]))),.c (.one (.dt (.nat .u64) (.n 18446744065119617025) ((pn x)*(pd y)))),.c (.one (.dt (.nat .u64) (.n 18446744065119617025) ((pn y)*(pd x)))),.c (.one (.kn .u64 0))]) (I (rfl:(Op.call {callee:= .value (.func 155),args:= #[.tmp 43,.tmp 44,.const (.int .u64 0)],argTypes:= #[108,108,108]}:Op)=Op.call {callee:= .value (.func 155),args:= #[.tmp 43,.tmp 44,.const (.int .u64 0)],argTypes:= #[108,108,108]}) (Sp ((decide (x.num<0))=s) (fun h3=>Sp (cy ((pn x)*(pd y)) ((pn y)*(pd x))=0) (fun h4=>I (hpp:0<(pd x)*(pd y)) ((?_:qd s ((((pn x)*(pd y))+((pn y)*(pd x)))%18446744073709551616) ((pd x)*(pd y))=x+yQ s y))) (fun h5=>Sp ((decide (x.num<0))≠s) (fun h6=>Sp ((pn y)*(pd x)≤(pn x)*(pd y)) (fun h7=>I (by first|omega|contradiction:(pn y)*(pd x)≤(pn x)*(pd y)) (I (hpp:0<(pd x)*(pd y)) ((?_:qd (decide (x.num<0)) (((pn x)*(pd y)) -((pn y)*(pd x))) ((pd x)*(pd y))=x+yQ s y)))) (fun h8=>Sp ((decide (x.num<0))≠s) (fun h9=>I (by first|omega|contradiction:(pn x)*(pd y)≤(pn y)*(pd x)) (I (hpp:0<(pd x)*(pd y)) ((?_:qd s (((pn y)*(pd x)) -((pn x)*(pd y))) ((pd x)*(pd y))=x+yQ s y)))) (fun h10=>Sp ((!(decide ((denL x.den)=(denL y.den))))=true) (fun h11=>Sp ((decide (x.num<0))=s) (fun h12=>(?_:qd s ((x.num.natAbs*y.den)+(y.num.natAbs*x.den)) (x.den*y.den)=x+yQ s y)) (fun h13=>Sp (subC (x.num.natAbs*y.den) (y.num.natAbs*x.den)=0) (fun h14=>(?_:qd (decide (x.num<0)) ((x.num.natAbs*y.den) -(y.num.natAbs*x.den)) (x.den*y.den)=x+yQ s y)) (fun h15=>(?_:qd s ((y.num.natAbs*x.den) -(x.num.natAbs*y.den)) (x.den*y.den)=x+yQ s y)))) (fun h16=>have hde:=(show x.den=y.den from zC x.den_nz y.den_nz (by have h:=h16;simpa using h));Sp ((decide (x.num<0))=s) (fun h17=>(?_:qd s (x.num.natAbs+y.num.natAbs) x.den=x+yQ s y)) (fun h18=>Sp (subC x.num.natAbs y.num.natAbs=0) (fun h19=>(?_:qd (decide (x.num<0)) (x.num.natAbs-y.num.natAbs) x.den=x+yQ s y)) (fun h20=>(?_:qd s (y.num.natAbs-x.num.natAbs) x.den=x+yQ s y))))))) (fun h21=>Sp ((decide (x.num<0))≠s) (fun h22=>I (by first|omega|contradiction:(pn x)*(pd y)≤(pn y)*(pd x)) (I (hpp:0<(pd x)*(pd y)) ((?_:qd s (((pn y)*(pd x)) -((pn x)*(pd y))) ((pd x)*(pd y))=x+yQ s y)))) (fun h23=>Sp ((!(decide ((denL x.den)=(denL y.den))))=true) (fun h24=>Sp ((decide (x.num<0))=s) (fun h25=>(?_:qd s ((x.num.natAbs*y.den)+(y.num.natAbs*x.den)) (x.den*y.den)=x+yQ s y)) (fun h26=>Sp (subC (x.num.natAbs*y.den) (y.num.natAbs*x.den)=0) (fun h27=>(?_:qd (decide (x.num<0)) ((x.num.natAbs*y.den) -(y.num.natAbs*x.den)) (x.den*y.den)=x+yQ s y)) (fun h28=>(?_:qd s ((y.num.natAbs*x.den) -(x.num.natAbs*y.den)) (x.den*y.den)=x+yQ s y)))) (fun h29=>have hde:=(show x.den=y.den from zC x.den_nz y.den_nz (by have h:=h29;simpa using h));Sp ((decide (x.num<0))=s) (fun h30=>(?_:qd s (x.num.natAbs+y.num.natAbs) x.den=x+yQ s y)) (fun h31=>Sp (subC x.num.natAbs y.num.natAbs=0) (fun h32=>(?_:qd (decide (x.num<0)) (x.num.natAbs-y.num.natAbs) x.den=x+yQ s y)) (fun h33=>(?_:qd s (y.num.natAbs-x.num.natAbs) x.den=x+yQ s y)))))))) (fun h34=>Sp ((decide (x.num<0))≠s) (fun h35=>Sp ((pn y)*(pd x)≤(pn x)*(pd y)) (fun h36=>I (by first|omega|contradiction:(pn y)*(pd x)≤(pn x)*(pd y)) (I (hpp:0<(pd x)*(pd y)) ((?_:qd (decide (x.num<0)) (((pn x)*(pd y)) -((pn y)*(pd x))) ((pd x)*(pd y))=x+yQ s y)))) (fun h37=>Sp ((decide (x.num<0))≠s) (fun h38=>I (by first|omega|contradiction:(pn x)*(pd y)≤(pn y)*(pd x)) (I (hpp:0<(pd x)*(pd y)) ((?_:qd s (((pn y)*(pd x)) -((pn x)*(pd y))) ((pd x)*(pd y))=x+yQ s y)))) (fun h39=>Sp ((!(decide ((denL x.den)=(denL y.den))))=true) (fun h40=>Sp ((decide (x.num<0))=s) (fun h41=>(?_:qd s ((x.num.natAbs*y.den)+(y.num.natAbs*x.den)) (x.den*y.den)=x+yQ s y)) (fun h42=>Sp (subC (x.num.natAbs*y.den) (y.num.natAbs*x.den)=0) (fun h43=>(?_:qd (decide (x.num<0)) ((x.num.natAbs*y.den) -(y.num.natAbs*x.den)) (x.den*y.den)=x+yQ s y)) (fun h44=>(?_:qd s ((y.num.natAbs*x.den) -(x.num.natAbs*y.den)) (x.den*y.den)=x+yQ s y)))) (fun h45=>have hde:=(show x.den=y.den from zC x.den_nz y.den_nz (by have h:=h45;simpa using h));Sp ((decide (x.num<0))=s) (fun h46=>(?_:qd s (x.num.natAbs+y.num.natAbs) x.den=x+yQ s y)) (fun h47=>Sp (subC x.num.natAbs y.num.natAbs=0) (fun h48=>(?_:qd (decide (x.num<0)) (x.num.natAbs-y.num.natAbs) x.den=x+yQ s y)) (fun h49=>(?_:qd s (y.num.natAbs-x.num.natAbs) x.den=x+yQ s y))))))) (fun h50=>Sp ((decide (x.num<0))≠s) (fun h51=>I (by first|omega|contradiction:(pn x)*(pd y)≤(pn y)*(pd x)) (I (hpp:0<(pd x)*(pd y)) ((?_:qd s (((pn y)*(pd x)) -((pn x)*(pd y))) ((pd x)*(pd y))=x+yQ s y)))) (fun h52=>Sp ((!(decide ((denL x.den)=(denL y.den))))=true) (fun h53=>Sp ((decide (x.num<0))=s) (fun h54=>(?_:qd s ((x.num.natAbs*y.den)+(y.num.natAbs*x.den)) (x.den*y.den)=x+yQ s y)) (fun h55=>Sp (subC (x.num.natAbs*y.den) (y.num.natAbs*x.den)=0) (fun h56=>(?_:qd (decide (x.num<0)) ((x.num.natAbs*y.den) -(y.num.natAbs*x.den)) (x.den*y.den)=x+yQ s y)) (fun h57=>(?_:qd s ((y.num.natAbs*x.den) -(x.num.natAbs*y.den)) (x.den*y.den)=x+yQ s y)))) (fun h58=>have hde:=(show x.den=y.den from zC x.den_nz y.den_nz (by have h:=h58;simpa using h));Sp ((decide (x.num<0))=s) (fun h59=>(?_:qd s (x.num.natAbs+y.num.natAbs) x.den=x+yQ s y)) (fun h60=>Sp (subC x.num.natAbs y.num.natAbs=0) (fun h61=>(?_:qd (decide (x.num<0)) (x.num.natAbs-y.num.natAbs) x.den=x+yQ s y)) (fun h62=>(?_:qd s (y.num.natAbs-x.num.natAbs) x.den=x+yQ s y)))))))))) (fun h63=>Sp ((!(decide ((denL x.den)=(denL y.den))))=true) (fun h64=>Sp ((decide (x.num<0))=s) (fun h65=>(?_:qd s ((x.num.natAbs*y.den)+(y.num.natAbs*x.den)) (x.den*y.den)=x+yQ s y)) (fun h66=>Sp (subC (x.num.natAbs*y.den) (y.num.natAbs*x.den)=0) (fun h67=>(?_:qd (decide (x.num<0)) ((x.num.natAbs*y.den) -(y.num.natAbs*x.den)) (x.den*y.den)=x+yQ s y)) (fun h68=>(?_:qd s ((y.num.natAbs*x.den) -(x.num.natAbs*y.den)) (x.den*y.den)=x+yQ s y)))) (fun h69=>have hde:=(show x.den=y.den from zC x.den_nz y.den_nz (by have h:=h69;simpa using h));Sp ((decide (x.num<0))=s) (fun h70=>(?_:qd s (x.num.natAbs+y.num.natAbs) x.den=x+yQ s y)) (fun h71=>Sp (subC x.num.natAbs y.num.natAbs=0) (fun h72=>(?_:qd (decide (x.num<0)) (x.num.natAbs-y.num.natAbs) x.den=x+yQ s y)) (fun h73=>(?_:qd s (y.num.natAbs-x.num.natAbs) x.den=x+yQ s y)))))) (fun h74=>Sp ((!(decide ((denL x.den)=(denL y.den))))=true) (fun h75=>Sp ((decide (x.num<0))=s) (fun h76=>(?_:qd s ((x.num.natAbs*y.den)+(y.num.natAbs*x.den)) (x.den*y.den)=x+yQ s y)) (fun h77=>Sp (subC (x.num.natAbs*y.den) (y.num.natAbs*x.den)=0) (fun h78=>(?_:qd (decide (x.num<0)) ((x.num.natAbs*y.den) -(y.num.natAbs*x.den)) (x.den*y.den)=x+yQ s y)) (fun h79=>(?_:qd s ((y.num.natAbs*x.den) -(x.num.natAbs*y.den)) (x.den*y.den)=x+yQ s y)))) (fun h80=>have hde:=(show x.den=y.den from zC x.den_nz y.den_nz (by have h:=h80;simpa using h));Sp ((decide (x.num<0))=s) (fun h81=>(?_:qd s (x.num.natAbs+y.num.natAbs) x.den=x+yQ s y)) (fun h82=>Sp (subC x.num.natAbs y.num.natAbs=0) (fun h83=>(?_:qd (decide (x.num<0)) (x.num.natAbs-y.num.natAbs) x.den=x+yQ s y)) (fun h84=>(?_:qd s (y.num.natAbs-x.num.natAbs) x.den=x+yQ s y))))))⟩<;>first|(first|contradiction|skip;rw[hpx.1,hpx.2.1,hpy.1,hpy.2.1]at*;first|(rw[Xu (by assumption)];exact BO (by assumption))|exact BM (by assumption) (by assumption)|exact BN (by assumption) (by omega))|(first|contradiction|exact UU hde (by assumption)|exact US hde (by assumption) (Io.1 (by assumption))|exact UT hde (by assumption) (q1E (Nat.lt_of_not_le (mt Io.2 (by assumption))))|exact BO (by assumption)|exact BM (by assumption) (Io.1 (by assumption))|exact BN (by assumption) (q1E (Nat.lt_of_not_le (mt Io.2 (by assumption))))))
abbrev RQ:Ctr Tryz.prog:=FI.c YA
abbrev Wk:FI:=⟨114,[.rat,.rat],[(.n 68719476736),(.n 68719476736)],fun _=>[],fun b z=>(fun(x:Rat)(y:Rat)=> .c (.agg [.dt .rat (.n ((b0 b).nb+(b1 b).nb+1)) (x+y)])) z.1 z.2⟩
theorem Wl:Wk.OK Tryz.prog:=jp hmix 10 Tryz.func114 rfl rfl (by decide) [(140,.c RQ)] (fun(x:Rat)(y:Rat) b hx hp=>vf (KY (Bnds.h2 hx).1 (Bnds.h2 hx).2)) (fun(x:Rat)(y:Rat) hx hp=>by
 refine⟨.nil,kcast (by kernel_rfl) ((by rw[BK]:x+yQ (decide (y.num<0)) y=x+y))⟩)
abbrev q2h:Ctr Tryz.prog:=FI.c Wl
abbrev YR:FI:=⟨115,[.rat,.rat],[(.n 68719476736),(.n 68719476736)],fun _=>[],fun b z=>(fun(x:Rat)(y:Rat)=> .c (.agg [.dt .rat (.n ((b0 b).nb+(b1 b).nb+1)) (x-y)])) z.1 z.2⟩
theorem YS:YR.OK Tryz.prog:=jp hmix 11 Tryz.func115 rfl rfl (by decide) [(140,.c RQ)] (fun(x:Rat)(y:Rat) b hx hp=>vf (MK (Bnds.h2 hx).1 (Bnds.h2 hx).2)) (fun(x:Rat)(y:Rat) hx hp=>by
 refine⟨.nil,kcast (by kernel_rfl) ((by rw[show decide (¬(y.num<0))=!decide (y.num<0)from decide_not,Nl,Rat.sub_eq_add_neg]:x+yQ (decide (¬(y.num<0))) y=x-y))⟩)
abbrev RU:FI:=⟨104,[.rat],[(.n 1099511627776)],fun _=>[],fun b z=>(fun(x:Rat)=> .c (.agg [.dt .rat (b0 b) x])) z⟩
theorem K7:RU.OK Tryz.prog:=jp hmix 12 Tryz.func104 rfl rfl (by decide) [(133,.c DC)] (fun(x:Rat) b hx hp=>vf (Bnds.h1 hx)) (fun(x:Rat) hx hp=>by
 have hx0:Bnd .rat (.n 1099511627776) x:=hx
 refine⟨.h 1 7 (.c BR) (.h 1 8 (.rat x 1099511627776) (.nil)),kcast (by kernel_rfl) (I (Eq.refl (decide (x.num<0))) (I (Eq.refl x.num.natAbs) (I (Eq.refl (denL x.den)) (I (hx0.1:qt x.num.natAbs 1099511627776) (I (hx0.2:le2 x.den 1099511627776) ((Eq.refl x)))))))⟩)
abbrev RT:Ctr Tryz.prog:=FI.c K7
abbrev YP:FI:=⟨63,[.rat,.rat],[(.n 68719476736),(.n 68719476736)],fun _=>[],fun b z=>(fun(x:Rat)(y:Rat)=> .tup [.agg [.dt .rat (.n ((b0 b).nb+(b1 b).nb)) (x/y)],.one (.dt (.int .i64) (.n 3) (quoC y))]) z.1 z.2⟩
theorem YQ:YP.OK Tryz.prog:=jp hmix 58 Tryz.func63 rfl rfl (by decide) [(62,.c OM),(97,.c G0),(98,.c G5),(99,.c Ee),(100,.c mul_c),(101,.c Ig)] (fun(x:Rat)(y:Rat) b hx hp=>j8 (vf (Wi (Bnds.h2 hx).1 (Bnds.h2 hx).2)) (j8 (qn (Yu y) rfl) z5)) (fun(x:Rat)(y:Rat) hx hp=>by
 refine⟨.nil,kcast (by kernel_rfl) (Sp (jv y=0) (fun h1=>q0N (q0t (MF.1 (by assumption)):0=x/y) ((if_pos (MF.1 (by assumption))).symm:3=quoC y)) (fun h2=>have hy0:=mt MF.2 (by assumption);Sp (pb x=true) (fun h3=>Sp (pb y=true) (fun h4=>have hpx:=Cv (x:=x) (by assumption);have hpy:=Cv (x:=y) (by assumption);I (q1V hpx.2.2 (hpy.1▸q1W hy0):0<(pd x)*(pn y)) (q0N (?_:qd (decide ((decide (x.num<0))≠(decide (y.num<0)))) ((pn x)*(pd y)) ((pd x)*(pn y))=x/y) ((if_neg hy0).symm:0=quoC y))) (fun h5=>q0N (?_:qd (decide ((decide (x.num<0))≠(decide (y.num<0)))) (x.num.natAbs*y.den) (x.den*y.num.natAbs)=x/y) ((if_neg hy0).symm:0=quoC y))) (fun h6=>q0N (?_:qd (decide ((decide (x.num<0))≠(decide (y.num<0)))) (x.num.natAbs*y.den) (x.den*y.num.natAbs)=x/y) ((if_neg hy0).symm:0=quoC y))))⟩<;>first|(first|exact Mw hy0|(rw[hpx.1,hpy.1,hpx.2.1,hpy.2.1];exact Mw hy0)))
abbrev YB:FI:=⟨83,[.rat,.rat],[(.n 68719476736),(.n 68719476736)],fun _=>[],fun b z=>(fun(x:Rat)(y:Rat)=> .c (.one (.dt (.int .i64) (.n 1) (cmpQ x y)))) z.1 z.2⟩
theorem YC:YB.OK Tryz.prog:=jp hmix 80 Tryz.func83 rfl rfl (by decide) [(62,.c OM),(97,.c G0),(100,.c mul_c),(101,.c Ig),(118,.c Pl),(119,.c Pf)] (fun(x:Rat)(y:Rat) b hx hp=>qn (SZ x y) rfl) (fun(x:Rat)(y:Rat) hx hp=>by
 refine⟨.nil,kcast (by kernel_rfl) (Sp (jv x≠jv y) (fun h1=>Sp (jv x<jv y) (fun h2=>(?_:(-1)=cmpQ x y)) (fun h3=>(?_:1=cmpQ x y))) (fun h4=>have hs:=(show jv x=jv y by omega);Sp (decide ((denL x.den)=(denL y.den))=true) (fun h5=>have hde:=(show x.den=y.den from zC x.den_nz y.den_nz (by have h:=h5;simpa using h));Sp (x.num<0) (fun h6=>(?_: -(qM x.num.natAbs y.num.natAbs)=cmpQ x y)) (fun h7=>(?_:qM x.num.natAbs y.num.natAbs=cmpQ x y))) (fun h8=>Sp (pb x=true) (fun h9=>Sp (pb y=true) (fun h10=>have hpx:=Cv (x:=x) (by assumption);have hpy:=Cv (x:=y) (by assumption);Sp ((pn x)*(pd y)<(pn y)*(pd x)) (fun h11=>Sp (x.num<0) (fun h12=>(?_:1=cmpQ x y)) (fun h13=>(?_:(-1)=cmpQ x y))) (fun h14=>Sp ((pn y)*(pd x)<(pn x)*(pd y)) (fun h15=>Sp (x.num<0) (fun h16=>(?_:(-1)=cmpQ x y)) (fun h17=>(?_:1=cmpQ x y))) (fun h18=>Sp (x.num<0) (fun h19=>(?_:0=cmpQ x y)) (fun h20=>(?_:0=cmpQ x y))))) (fun h21=>Sp (x.num<0) (fun h22=>(?_: -(qM (x.num.natAbs*y.den) (y.num.natAbs*x.den))=cmpQ x y)) (fun h23=>(?_:qM (x.num.natAbs*y.den) (y.num.natAbs*x.den)=cmpQ x y)))) (fun h24=>Sp (x.num<0) (fun h25=>(?_: -(qM (x.num.natAbs*y.den) (y.num.natAbs*x.den))=cmpQ x y)) (fun h26=>(?_:qM (x.num.natAbs*y.den) (y.num.natAbs*x.den)=cmpQ x y))))))⟩<;>first|(first|exact((NO (by assumption)).1 (by assumption)).symm|exact((NO (by assumption)).2 (by assumption)).symm|(rw[Ve hs (by assumption)];first|exact DE hde|exact congrArg Neg.neg (DE hde)|rfl|(rw[QE hpx hpy];unfold qM;split<;>(try split)<;>first|rfl|omega))|(rw[Vf hs (by assumption)];first|exact DE hde|exact congrArg Neg.neg (DE hde)|rfl|(rw[QE hpx hpy];unfold qM;split<;>(try split)<;>first|rfl|omega))))
abbrev Wv:FI:=⟨108,[.rat,.rat],[(.n 1099511627776),(.n 1099511627776)],fun _=>[],fun b z=>(fun(x:Rat)(y:Rat)=> .c (.one (.dt .bool .u (decide (x=y))))) z.1 z.2⟩
theorem Ww:Wv.OK Tryz.prog:=jp hmix 24 Tryz.func108 rfl rfl (by decide) [(118,.c Pl)] (fun(x:Rat)(y:Rat) b hx hp=>qn trivial rfl) (fun(x:Rat)(y:Rat) hx hp=>by
 refine⟨.nil,kcast (by kernel_rfl) (Sp ((decide (x.num<0))=(decide (y.num<0))) (fun h1=>Sp (decide ((limbs x.num.natAbs)=(limbs y.num.natAbs))=true) (fun h2=>(?_:decide ((denL x.den)=(denL y.den))=decide (x=y))) (fun h3=>(?_:false=decide (x=y)))) (fun h4=>(?_:false=decide (x=y))))⟩<;>first|(first|exact q0x (by assumption)|exact q0y (by assumption)|exact q0z (by assumption) (by assumption)))
section
section
variable {P:Program}
end
end
abbrev Xd:FO:=⟨55,[(.sl (.nat .u32))],[(.s 1099511627776 (.n 4294967295))],fun z=>(fun(ls:List Nat)=>[∀u∈ls,u<4294967296]) z,fun k b z=>(fun(ls:List Nat)=> .c (.one (.gs k ((limbs (q9 ls)).length) 1 ((b0 b).len)))) z,fun b z=>(fun(ls:List Nat)=> .gro (.nat .u32) (.n 4294967295) (limbs (q9 ls))) z⟩
theorem Xe:Xd.OK Tryz.prog:=mkO hmix 23 22 Tryz.func55 rfl rfl (by decide) [] (fun _=>rfl) (fun _ _ _=>rfl) (fun _ _=>rfl) (fun _ _ _=>⟨rfl,rfl⟩) (fun(ls:List Nat) k b hx hp=>⟨qn (q1H (J5 (hp _ q1j)) (Bnds.h1 hx).sl.1) rfl,fun u hu=>q1F (j5 _ u hu)⟩) (fun(ls:List Nat) hx hp=>by
 have hl0:ls.length≤1099511627776:=hx.1
 have hp0: ∀u∈ls,u<4294967296:=hp _ (q1j)
 refine bodyO.g (.loop [.s 3 (.nat .i64) (.n 1099511627776)] (fun(k:Nat)=>k≤ls.length∧q9 (ls.take k)=q9 ls) (fun(k:Nat)=>k) (fun(k:Nat)=> .cond (.h 2 5 (.i .sub) (.cond (.h 3 1 (.i .sub) (.nil)) (.h 4 0 (.mk (.gro (.nat .u32) (.n 4294967295))) (.nil)))) (.h 4 0 (.mk (.gro (.nat .u32) (.n 4294967295))) (.nil)))) (kcast (by kernel_rfl) (I (⟨q1G _,by rw[q1r]⟩:ls.length≤ls.length∧q9 (ls.take ls.length)=q9 ls) (fun(k:Nat)(hb1:HB [.s 3 (.nat .i64) (.n 1099511627776)] k)(hC:k≤ls.length∧q9 (ls.take k)=q9 ls)=>have hv6:=(show k≤1099511627776 from hb1);have hk:=hC.1;Sp (0<k) (fun h2=>I (?_:1≤k) (I (?_:k-1<ls.length) (Sp (ls.getD (k-1) 0=0) (fun h3=>I (?_:1≤k) (q0N (⟨by omega,Fj hC.1 (by omega) hC.2 (by omega)⟩:k-1≤ls.length∧q9 (ls.take (k-1))=q9 ls) (?_:k-1<k))) (fun h4=>I (?_:k≤ls.length) (I (rfl:0=([]:List Nat).length) (q0N ((q1o _).trans (wm hp0 hC.1 hC.2 (by omega)):([]:List Nat)++(ls.take k)=limbs (q9 ls)) ((by rw[←wm hp0 hC.1 hC.2 (by omega)];simp:0+(ls.take k).length=(limbs (q9 ls)).length)))))))) (fun h5=>I (?_:k≤ls.length) (I (rfl:0=([]:List Nat).length) (q0N ((q1o _).trans (wm hp0 hC.1 hC.2 (by omega)):([]:List Nat)++(ls.take k)=limbs (q9 ls)) ((by rw[←wm hp0 hC.1 hC.2 (by omega)];simp:0+(ls.take k).length=(limbs (q9 ls)).length))))))))<;>omega)
abbrev Xc(k:Nat)(b:List Bd)(ls:List Nat):WV:= .c (.one (.gs k ((limbs (q9 ls)).length) 1 ((b0 b).len)))
abbrev Xb(b:List Bd)(ls:List Nat):WB:= .gro (.nat .u32) (.n 4294967295) (limbs (q9 ls))
theorem SG(d:Nat)(ls:List Nat)(hx:Bnds [(.sl (.nat .u32))] [(.s 1099511627776 (.n 4294967295))] ls)(hp: ∀c0∈([∀u∈ls,u<4294967296]:List Prop),c0):jW Tryz.prog 55 (argsE [(.sl (.nat .u32))] ls) [] (Xc d [(.s 1099511627776 (.n 4294967295))] ls).exp [(d,some (Xb [(.s 1099511627776 (.n 4294967295))] ls).exp)]:=Xe.sig d ls hx hp
theorem SF(b:List Bd)(ls:List Nat)(hx:Bnds [.sl (.nat .u32)] b ls)(hp: ∀p∈([∀u∈ls,u<4294967296]:List Prop),p):(WV.c (.one (.dt .mag (.n (32*(b0 b).len)) (q9 ls)))).ok:=qn (E2 (hp _ q1j) (Bnds.h1 hx).sl.1) rfl
theorem Ix(ls:List Nat)(hx:Bnds [.sl (.nat .u32)] [.s 1099511627776 (.n 4294967295)] ls)(hp: ∀p∈([∀u∈ls,u<4294967296]:List Prop),p)(b:Bd):Sig Tryz.prog 55 (argsE [.sl (.nat .u32)] ls) (WV.c (.one (.dt .mag b (q9 ls)))).exp:=by
 have h:=frzO (SG 0 ls hx hp) (by decide) rfl .u
 rw[magE (q9 ls) .u b]at h;exact h
def AL:Ctr Tryz.prog:=⟨55,[.sl (.nat .u32)],[.s 1099511627776 (.n 4294967295)],fun z=>[∀u∈z,u<4294967296],fun b z=> .c (.one (.dt .mag (.n (32*(b0 b).len)) (q9 z))),fun z hx hp=>Ix z hx hp _,fun _ _=>rfl,fun b z hx hp=>SF b z hx hp⟩
theorem Qo(x:Nat)(hx:Bnds [.mag] [.n 1099511627776] x)(b:Bd):Sig Tryz.prog 55 (argsE [.mag] x) (WV.c (.one (.dt .mag b x))).exp:=by
 have h:=Ix (limbs x) ⟨q1H (qg (q1E hx)) (by decide),(Bnd.limbs hx).2⟩ (by intro p hp;simp only[q1h,q1p,or_false]at hp;subst hp;exact j5 x) b
 rw[qu,←Ey]at h;exact h
def Jo:Ctr Tryz.prog:=⟨55,[.mag],[.n 1099511627776],fun z=>[],fun b z=> .c (.one (.dt .mag (b0 b) z)),fun z hx hp=>Qo z hx _,fun _ _=>rfl,fun b z hx hp=>qn (Bnds.h1 hx) rfl⟩
abbrev q0H:FI:=⟨59,[(.nat .u64)],[(.n 18446744073709551615)],fun _=>[],fun b z=>(fun(x:Nat)=> .c (.one (.dt .mag (.n (Nat.log2 (b0 b).nb+1)) (x)))) z⟩
theorem q0I:q0H.OK Tryz.prog:=jp hmix 10 Tryz.func59 rfl rfl (by decide) [] (fun(x:Nat) b hx hp=>qn (wy (Bnds.h1 hx).nat) rfl) (fun(x:Nat) hx hp=>by
 have hx0:x≤18446744073709551615:=hx
 refine⟨.h 1 5 (.mk (.im (.nat .u32) (.n 4294967295))) (.h 1 6 (.c AL) (.nil)),kcast (by kernel_rfl) (I (by intro u hu;simp only[q1h,q1p,or_false]at hu;omega: ∀u∈[x%4294967296,x/2^32],u<4294967296) ((by simp only[q9];omega:q9 [x%4294967296,x/2^32]=x)))⟩)
abbrev KU:Ctr Tryz.prog:=FI.c q0I
abbrev Zf:FI:=⟨35,[.mag,.mag],[(.n 1099511627776),(.n 1099511627776)],fun _=>[],fun b z=>(fun(x:Nat)(y:Nat)=> .c (.one (.dt (.int .i64) (.n 1) (qM x y)))) z.1 z.2⟩
theorem Zg:Zf.OK Tryz.prog:=jp hmix 41 Tryz.func35 rfl rfl (by decide) [] (fun(x:Nat)(y:Nat) b hx hp=>qn (NN x y) rfl) (fun(x:Nat)(y:Nat) hx hp=>by
 have hx0:qt x 1099511627776:=hx.1
 have hl0:(limbs x).length≤34359738369:=qg (q1E hx0)
 have hx1:qt y 1099511627776:=hx.2
 have hl1:(limbs y).length≤34359738369:=qg (q1E hx1)
 refine⟨.cond (.nil) (.loop [.s 5 (.int .i64) (.n 68719476736)] (fun(z:Int)=>CmpI x y z) (fun(z:Int)=>(z+1).toNat) (fun(z:Int)=> .cond (.h 8 2 (.ix z.toNat) (.h 8 6 (.ix z.toNat) (.cond (.nil) (.h 10 2 (.ix z.toNat) (.h 10 6 (.ix z.toNat) (.nil)))))) (.nil))),kcast (by kernel_rfl) (Sp ((limbs x).length≠(limbs y).length) (fun h1=>Sp ((limbs x).length<(limbs y).length) (fun h2=>(?_:(-1)=qM x y)) (fun h3=>(?_:1=qM x y))) (fun h4=>I (CmpI.start (by omega):CmpI x y ((((limbs x).length:Nat):Int) -1)) (fun(z:Int)(hb5:HB [.s 5 (.int .i64) (.n 68719476736)] z)(hC:CmpI x y z)=>have hv12:=(show Int.natAbs z≤68719476736 from hb5);have hC0:=hC.h0;have hC1:=hC.h1;Sp (0≤z) (fun h6=>I (?_:z=((z.toNat:Nat):Int)) (I (?_:z.toNat<(limbs x).length) (I (?_:z=((z.toNat:Nat):Int)) (I (?_:z.toNat<(limbs y).length) (Sp ((limbs x).getD z.toNat 0<(limbs y).getD z.toNat 0) (fun h7=>(?_:(-1)=qM x y)) (fun h8=>I (?_:z=((z.toNat:Nat):Int)) (I (?_:z.toNat<(limbs x).length) (I (?_:z=((z.toNat:Nat):Int)) (I (?_:z.toNat<(limbs y).length) (Sp ((limbs y).getD z.toNat 0<(limbs x).getD z.toNat 0) (fun h9=>(?_:1=qM x y)) (fun h10=>I (show Int.natAbs (z-1)≤68719476736 by omega:Bnd (.int .i64) (.n 68719476736) (z-1)) (q0N ((hC.at (by omega) (by omega)).1 (by omega):CmpI x y (z-1)) (?_:((z-1)+1).toNat<(z+1).toNat))))))))))))) (fun h11=>((hC.fin (by omega)).symm:0=qM x y)))))⟩<;>first|omega|(first|exact(Ll (by omega)).symm|exact((hC.at (by omega) (by omega)).2.1 (by omega)).symm)|(first|exact(Lm (by omega)).symm|exact((hC.at (by omega) (by omega)).2.2 (by omega)).symm))
abbrev Iw:Ctr Tryz.prog:=FI.c Zg
theorem SubI.lt{x y i c s:Nat}{out:List Nat}(h:SubI x y i c out)(hi:i<(limbs x).length)(hs:s=c+(limbs y).getD i 0)(hl:(limbs x).getD i 0<s):
  SubI x y (i+1) 1 (out.set i (((limbs x).getD i 0+4294967296-s)%4294967296)):=by
 have h1:=qb x i
 have h2:=qb y i
 have hc:=h.hc
 have:=h.step hi hs
 have e:dif ((limbs x).getD i 0) s=(limbs x).getD i 0+18446744073709551616-s:=by rw[D2];omega
 rw[e,show((limbs x).getD i 0+18446744073709551616-s)/9223372036854775808=1 by omega,show((limbs x).getD i 0+18446744073709551616-s)%4294967296=((limbs x).getD i 0+4294967296-s)%4294967296 by omega]at this
 exact this
theorem SubI.ge{x y i c s:Nat}{out:List Nat}(h:SubI x y i c out)(hi:i<(limbs x).length)(hs:s=c+(limbs y).getD i 0)(hl: ¬(limbs x).getD i 0<s):
  SubI x y (i+1) 0 (out.set i ((limbs x).getD i 0-s)):=by
 have h1:=qb x i
 have:=h.step hi hs
 have e:dif ((limbs x).getD i 0) s=(limbs x).getD i 0-s:=by rw[D2];omega
 rw[e,show((limbs x).getD i 0-s)/9223372036854775808=0 by omega,show((limbs x).getD i 0-s)%4294967296=(limbs x).getD i 0-s by omega]at this
 exact this
def xw(x:Nat):Nat:=if(limbs x).length≤2 then x else 0
def xk(x:Nat):Bool:=decide ((limbs x).length≤2)
theorem q0M(x:Nat):xw x≤18446744073709551615:=by
 unfold xw;split
 ·exact q1F (Ma (by assumption))
 ·omega
theorem xw_y{x:Nat}(h:(limbs x).length≤2):xw x=x∧xk x=true:=⟨if_pos h,decide_eq_true h⟩
theorem xw_n{x:Nat}(h: ¬(limbs x).length≤2):xw x=0∧xk x=false:=⟨if_neg h,decide_eq_false h⟩
theorem Sn{x:Nat}(h:(limbs x).length=2):(limbs x).getD 0 0+(limbs x).getD 1 0*2^32=x:=by
 have h1:=zH (x:=x) (by omega)
 rw[h]at h1
 have h2:=qL (limbs x) 0
 simp only[Nat.reduceSub,q22,List.take_zero,q9,Nat.pow_zero,Nat.pow_one,Nat.one_mul]at h1 h2
 omega
theorem V6{v:Nat}(h:v≠0):bl v=bl (v/2^1)+1:=by
 by_cases e:v=1
 ·subst e;decide
 ·exact BQ (k:=1) (show 2^1≤v by omega)
abbrev Ug:FI:=⟨58,[.mag,.mag],[(.n 1099511627776),(.n 1099511627776)],fun z=>(fun(x:Nat)(y:Nat)=>[y≤x]) z.1 z.2,fun b z=>(fun(x:Nat)(y:Nat)=> .c (.one (.dt .mag (b0 b) (x-y)))) z.1 z.2⟩
theorem Uh:Ug.OK Tryz.prog:=jp hmix 50 Tryz.func58 rfl rfl (by decide) [] (fun(x:Nat)(y:Nat) b hx hp=>qn (Bnd.magLe (Bnds.h2 hx).1 (Nat.sub_le _ _)) rfl) (fun(x:Nat)(y:Nat) hx hp=>by
 have hx0:qt x 1099511627776:=hx.1
 have hl0:(limbs x).length≤34359738369:=qg (q1E hx0)
 have hx1:qt y 1099511627776:=hx.2
 have hl1:(limbs y).length≤34359738369:=qg (q1E hx1)
 have hp0:y≤x:=hp _ (q1j)
 have hlen:=vY hp0
 refine⟨.h 1 2 (.mk (.arr (.nat .u32) (.n 4294967295))) (.loop [.s 7 (.nat .i64) (.n 34359738369),.s 6 (.nat .u64) (.n 1),.a 12 (.nat .u32) (.n 4294967295)] (fun((i,c,out):Nat×Nat×List Nat)=>SubI x y i c out) (fun((i,c,out):Nat×Nat×List Nat)=>(limbs x).length-i) (fun((i,c,out):Nat×Nat×List Nat)=> .cond (.cond (.cond (.h 14 4 (.i .sub) (.nil)) (.h 14 4 (.i .sub) (.nil))) (.cond (.h 14 4 (.i .sub) (.nil)) (.h 14 4 (.i .sub) (.nil)))) (.pre 15 (.frz 12 true [5]) (.h 15 1 (.c AL) (.nil))))),kcast (by kernel_rfl) (I (?_:(limbs x).length=(limbs x).length) (I (SubI.start x y:SubI x y 0 0 (List.replicate ((limbs x).length) (0:Nat))) (fun(i:Nat)(c:Nat)(out:List Nat)(hb1:HB [.s 7 (.nat .i64) (.n 34359738369),.s 6 (.nat .u64) (.n 1),.a 12 (.nat .u32) (.n 4294967295)] (i,c,out))(hI:SubI x y i c out)=>have hv10:=(show i≤34359738369 from hb1.1);have hv11:=(show c≤1 from hb1.2.1);have hv12:=(show∀u∈out,u≤4294967295 from hb1.2.2);have hIl:=hI.hl;have hIi:=hI.hi;have hIc:=hI.hc;have hg1:=qb x i;have hg2:=qb y i;Sp (i<(limbs x).length) (fun h2=>Sp (i<(limbs y).length) (fun h3=>I (?_:i<(limbs y).length) (I (?_:i<(limbs x).length) (Sp ((limbs x).getD i 0<c+((limbs y).getD i 0)) (fun h4=>I (?_:c+((limbs y).getD i 0)≤((limbs x).getD i 0)+4294967296) (I (?_:i<(limbs x).length) (I (?_:i<out.length) (I (show(i+1)≤34359738369 by omega:Bnd (.nat .i64) (.n 34359738369) (i+1)) (q0N (?_:SubI x y (i+1) 1 (out.set i (((((limbs x).getD i 0)+4294967296) -(c+((limbs y).getD i 0)))%4294967296))) (?_:(limbs x).length-(i+1)<(limbs x).length-i)))))) (fun h5=>I (?_:c+((limbs y).getD i 0)≤(limbs x).getD i 0) (I (?_:i<(limbs x).length) (I (?_:i<out.length) (I (show(i+1)≤34359738369 by omega:Bnd (.nat .i64) (.n 34359738369) (i+1)) (q0N (?_:SubI x y (i+1) 0 (out.set i (((limbs x).getD i 0) -(c+((limbs y).getD i 0))))) (?_:(limbs x).length-(i+1)<(limbs x).length-i))))))))) (fun h6=>I (?_:i<(limbs x).length) (Sp ((limbs x).getD i 0<c) (fun h7=>I (?_:c≤((limbs x).getD i 0)+4294967296) (I (?_:i<(limbs x).length) (I (?_:i<out.length) (I (show(i+1)≤34359738369 by omega:Bnd (.nat .i64) (.n 34359738369) (i+1)) (q0N (?_:SubI x y (i+1) 1 (out.set i (((((limbs x).getD i 0)+4294967296) -c)%4294967296))) (?_:(limbs x).length-(i+1)<(limbs x).length-i)))))) (fun h8=>I (?_:c≤(limbs x).getD i 0) (I (?_:i<(limbs x).length) (I (?_:i<out.length) (I (show(i+1)≤34359738369 by omega:Bnd (.nat .i64) (.n 34359738369) (i+1)) (q0N (?_:SubI x y (i+1) 0 (out.set i (((limbs x).getD i 0) -c))) (?_:(limbs x).length-(i+1)<(limbs x).length-i))))))))) (fun h9=>I (?_:(limbs x).length=out.length) (have hF:=hI.fin' (by omega) hp0;I (hF.2: ∀u∈out,u<4294967296) ((hF.1:q9 out=x-y)))))))⟩<;>first|omega|(first|exact hI.lt (by omega) (by first|rfl|rw[qy (l:=limbs y) (by omega),q1x]) (by assumption)|exact hI.ge (by omega) (by first|rfl|rw[qy (l:=limbs y) (by omega),q1x]) (by assumption)))
abbrev Nh:Ctr Tryz.prog:=FI.c Uh
abbrev Zp:FI:=⟨36,[.mag,.mag],[(.n 1099511627776),(.n 1099511627776)],fun _=>[],fun b z=>(fun(x:Nat)(y:Nat)=> .tup [.one (.dt .mag (b0 b) (x-y)),.one (.dt (.int .i64) (.n 7) (subC x y))]) z.1 z.2⟩
theorem Zq:Zp.OK Tryz.prog:=jp hmix 13 Tryz.func36 rfl rfl (by decide) [(35,.c Iw),(58,.c Nh)] (fun(x:Nat)(y:Nat) b hx hp=>j8 (qn (Bnd.magLe (Bnds.h2 hx).1 (Nat.sub_le _ _)) rfl) (j8 (qn (Si x y) rfl) z5)) (fun(x:Nat)(y:Nat) hx hp=>by
 have hx0:qt x 1099511627776:=hx.1
 have hl0:(limbs x).length≤34359738369:=qg (q1E hx0)
 have hx1:qt y 1099511627776:=hx.2
 have hl1:(limbs y).length≤34359738369:=qg (q1E hx1)
 refine⟨.nil,kcast (by kernel_rfl) (Sp (qM x y<0) (fun h1=>q0N (by have:=jL.1 (show qM x y<0 by assumption);omega:0=x-y) ((if_pos (jL.1 (by assumption))).symm:7=subC x y)) (fun h2=>have hp0:=(show y≤x from Nat.le_of_not_lt (mt jL.2 (by assumption)));I (?_:y≤x) (q0N (Eq.refl (x-y)) ((if_neg (by omega)).symm:0=subC x y))))⟩<;>omega)
abbrev Zo:Ctr Tryz.prog:=FI.c Zq
abbrev Zm:FI:=⟨31,[.mag,.mag],[(.n 1099511627776),(.n 1099511627776)],fun _=>[],fun b z=>(fun(x:Nat)(y:Nat)=> .c (.one (.dt .mag (.n ((b0 b).nb+(b1 b).nb)) (x*y)))) z.1 z.2⟩
theorem Zn:Zm.OK Tryz.prog:=jp hmix 67 Tryz.func31 rfl rfl (by decide) [] (fun(x:Nat)(y:Nat) b hx hp=>qn (FQ (Bnds.h2 hx).1.mag (Bnds.h2 hx).2.mag) rfl) (fun(x:Nat)(y:Nat) hx hp=>by
 have hx0:qt x 1099511627776:=hx.1
 have hl0:(limbs x).length≤34359738369:=qg (q1E hx0)
 have hx1:qt y 1099511627776:=hx.2
 have hl1:(limbs y).length≤34359738369:=qg (q1E hx1)
 refine⟨.h 1 5 (.mk (.arr (.nat .u32) (.n 4294967295))) (.loop [.s 6 (.nat .i64) (.n 34359738369),.a 14 (.nat .u32) (.n 4294967295)] (fun((i,out):Nat×List Nat)=>MulI x y i out) (fun((i,out):Nat×List Nat)=>(limbs x).length-i) (fun((i,out):Nat×List Nat)=> .cond (.loop [.s 8 (.nat .i64) (.n 34359738369),.s 7 (.nat .u64) (.n 4294967295),.a 14 (.nat .u32) (.n 4294967295)] (fun((j,c,out2):Nat×Nat×List Nat)=>MulJ x y i ((limbs x).getD i 0) j c out out2) (fun((j,c,out2):Nat×Nat×List Nat)=>(limbs y).length-j) (fun((j,c,out2):Nat×Nat×List Nat)=> .nil)) (.pre 13 (.frz 14 true [5]) (.h 13 1 (.c AL) (.nil))))),kcast (by kernel_rfl) (I (?_:((limbs x).length)+((limbs y).length)=((limbs x).length)+((limbs y).length)) (I (MulI.start x y:MulI x y 0 (List.replicate (((limbs x).length)+((limbs y).length)) (0:Nat))) (fun(i:Nat)(out:List Nat)(hb1:HB [.s 6 (.nat .i64) (.n 34359738369),.a 14 (.nat .u32) (.n 4294967295)] (i,out))(hM:MulI x y i out)=>have hv10:=(show i≤34359738369 from hb1.1);have hv11:=(show∀u∈out,u≤4294967295 from hb1.2);have hMl:=hM.hl;have hMi:=hM.hi;Sp (i<(limbs x).length) (fun h2=>I (MulJ.start hM:MulJ x y i ((limbs x).getD i 0) 0 0 out out) (fun(j:Nat)(c:Nat)(out2:List Nat)(hb3:HB [.s 8 (.nat .i64) (.n 34359738369),.s 7 (.nat .u64) (.n 4294967295),.a 14 (.nat .u32) (.n 4294967295)] (j,c,out2))(hJ:MulJ x y i ((limbs x).getD i 0) j c out out2)=>have hv6:=(show j≤34359738369 from hb3.1);have hv7:=(show c≤4294967295 from hb3.2.1);have hv8:=(show∀u∈out2,u≤4294967295 from hb3.2.2);have hJl:=hJ.hl;have hJj:=hJ.hj;have hJc:=hJ.hc;Sp (j<(limbs y).length) (fun h4=>I (?_:i<(limbs x).length) (I (?_:j<(limbs y).length) (I (?_:i+j<((limbs x).length)+((limbs y).length)) (I (?_:i+j<out2.length) (I (?_:i+j<((limbs x).length)+((limbs y).length)) (I (?_:i+j<out2.length) (I (show(j+1)≤34359738369 by omega:Bnd (.nat .i64) (.n 34359738369) (j+1)) (q0N ((hJ.step (by omega) (by omega) (qb x i) rfl).1:MulJ x y i ((limbs x).getD i 0) (j+1) ((c+((((limbs x).getD i 0)*((limbs y).getD j 0))+(out2.getD (i+j) 0)))/2^32) out (out2.set (i+j) ((c+((((limbs x).getD i 0)*((limbs y).getD j 0))+(out2.getD (i+j) 0)))%4294967296))) (?_:(limbs y).length-(j+1)<(limbs y).length-j))))))))) (fun h5=>I (?_:i+((limbs y).length)<((limbs x).length)+((limbs y).length)) (I (?_:i+((limbs y).length)<out2.length) (I (show(i+1)≤34359738369 by omega:Bnd (.nat .i64) (.n 34359738369) (i+1)) (q0N (MulJ.fin' hM (by omega) hJ (by omega):MulI x y (i+1) (out2.set (i+((limbs y).length)) c)) (?_:(limbs x).length-(i+1)<(limbs x).length-i))))))) (fun h9=>I (?_:((limbs x).length)+((limbs y).length)=out.length) (have hF:=hM.fin' (by omega);I (hF.2: ∀u∈out,u<4294967296) ((hF.1:q9 out=x*y)))))))⟩<;>omega)
abbrev Ni:Ctr Tryz.prog:=FI.c Zn
abbrev SB:FI:=⟨86,[.mag,(.nat .u32)],[(.n 1099511627776),(.n 4294967295)],fun z=>(fun(x:Nat)(u:Nat)=>[0<u]) z.1 z.2,fun b z=>(fun(x:Nat)(u:Nat)=> .tup [.one (.dt .mag (b0 b) (x/u)),.one (.dt (.nat .u32) (b1 b) (x%u))]) z.1 z.2⟩
theorem SC:SB.OK Tryz.prog:=jp hmix 43 Tryz.func86 rfl rfl (by decide) [] (fun(x:Nat)(u:Nat) b hx hp=>j8 (qn ((Bnds.h2 hx).1.magLe (q1y _ _)) rfl) (j8 (qn ((Bnds.h2 hx).2.natLe (q1E (q1N _ (hp _ (q1j))))) rfl) z5)) (fun(x:Nat)(u:Nat) hx hp=>by
 have hx0:qt x 1099511627776:=hx.1
 have hl0:(limbs x).length≤34359738369:=qg (q1E hx0)
 have hx1:u≤4294967295:=hx.2
 have hp0:0<u:=hp _ (q1j)
 refine⟨.h 1 2 (.mk (.arr (.nat .u32) (.n 4294967295))) (.loop [.s 8 (.int .i64) (.n 34359738370),.s 7 (.nat .u64) (.n 4294967295),.a 11 (.nat .u32) (.n 4294967295)] (fun((z,r,out):Int×Nat×List Nat)=>SmallZ x u z r out) (fun((z,r,out):Int×Nat×List Nat)=>(z+1).toNat) (fun((z,r,out):Int×Nat×List Nat)=> .cond (.h 6 4 (.ix z.toNat) (.h 6 7 (.i (.n ((r*2^32)+((limbs x).getD z.toNat 0)) 18446744073709551615)) (.h 7 7 (.ix z.toNat) (.nil)))) (.pre 9 (.frz 11 true [6,7]) (.h 9 1 (.c AL) (.nil))))),kcast (by kernel_rfl) (I (?_:(limbs x).length=(limbs x).length) (I (SmallZ.start hp0:SmallZ x u ((((limbs x).length:Nat):Int) -1) 0 (List.replicate ((limbs x).length) (0:Nat))) (fun(z:Int)(r:Nat)(out:List Nat)(hb1:HB [.s 8 (.int .i64) (.n 34359738370),.s 7 (.nat .u64) (.n 4294967295),.a 11 (.nat .u32) (.n 4294967295)] (z,r,out))(hI:SmallZ x u z r out)=>have hv4:=(show Int.natAbs z≤34359738370 from hb1.1);have hv5:=(show r≤4294967295 from hb1.2.1);have hv6:=(show∀u∈out,u≤4294967295 from hb1.2.2);have hB:=hI.b;Sp (0≤z) (fun h2=>I (?_:z=((z.toNat:Nat):Int)) (I (?_:z.toNat<(limbs x).length) (I (Ce _ 32 rfl (qb _ _) (by have:=qb x z.toNat;omega):qJ .or .u64 ((r*2^32:Nat):Int) (((limbs x).getD z.toNat 0:Nat):Int) (((r*2^32)+((limbs x).getD z.toNat 0):Nat):Int)) (I (by have:=qb x z.toNat;omega:(r*2^32)+((limbs x).getD z.toNat 0)≤18446744073709551615) (I (?_:0<u) (I (?_:z=((z.toNat:Nat):Int)) (I (?_:z.toNat<(limbs x).length) (I (?_:z.toNat<out.length) (I (?_:0<u) (I (show Int.natAbs (z-1)≤34359738370 by omega:Bnd (.int .i64) (.n 34359738370) (z-1)) (q0N (hI.step (by omega) rfl:SmallZ x u (z-1) (((r*2^32)+((limbs x).getD z.toNat 0))%u) (out.set z.toNat ((((r*2^32)+((limbs x).getD z.toNat 0))/u)%4294967296))) (?_:((z-1)+1).toNat<(z+1).toNat)))))))))))) (fun h3=>I (?_:(limbs x).length=out.length) (have hF:=hI.fin (by omega);I (hF.2.2: ∀u∈out,u<4294967296) (q0N (hF.1:q9 out=x/u) (hF.2.1:r=x%u)))))))⟩<;>omega)
abbrev SA:Ctr Tryz.prog:=FI.c SC
abbrev Ul:FI:=⟨90,[.mag,(.nat .u32)],[(.n 1099511627776),(.n 4294967295)],fun _=>[],fun b z=>(fun(x:Nat)(u:Nat)=> .c (.one (.dt .mag (.n ((b0 b).nb+(Nat.log2 (b1 b).nb+1))) (x*u)))) z.1 z.2⟩
theorem Um:Ul.OK Tryz.prog:=jp hmix 10 Tryz.func90 rfl rfl (by decide) [(31,.c Ni),(59,.c KU)] (fun(x:Nat)(u:Nat) b hx hp=>qn (FQ (Bnds.h2 hx).1.mag (wy (Bnds.h2 hx).2.nat)) rfl) (fun(x:Nat)(u:Nat) hx hp=>by
 refine⟨.nil,kcast (by kernel_rfl) ((Eq.refl (x*u)))⟩)
abbrev Uk:Ctr Tryz.prog:=FI.c Um
abbrev Ui:FI:=⟨85,[.mag],[(.n 1099511627776)],fun _=>[],fun b z=>(fun(x:Nat)=> .tup [.one (.dt (.nat .u64) (.n 18446744073709551615) (xw x)),.one (.dt .bool .u (xk x))]) z⟩
theorem Uj:Ui.OK Tryz.prog:=jp hmix 26 Tryz.func85 rfl rfl (by decide) [] (fun(x:Nat) b hx hp=>j8 (qn (q0M x) rfl) (j8 (qn trivial rfl) z5)) (fun(x:Nat) hx hp=>by
 have hx0:qt x 1099511627776:=hx
 have hl0:(limbs x).length≤34359738369:=qg (q1E hx0)
 refine⟨.cond (.nil) (.cond (.nil) (.cond (.h 7 9 (.i (.n (((limbs x).getD 0 0)+(((limbs x).getD 1 0)*2^32)) 18446744073709551615)) (.nil)) (.nil))),kcast (by kernel_rfl) (Sp ((limbs x).length=0) (fun h1=>q0N (by rw[(xw_y (by omega)).1];exact(nl0.1 (by omega)).symm:0=xw x) ((xw_y (by omega)).2.symm:true=xk x)) (fun h2=>Sp ((limbs x).length=1) (fun h3=>I (?_:0<(limbs x).length) (q0N (by rw[(xw_y (by omega)).1];exact PK (by omega):(limbs x).getD 0 0=xw x) ((xw_y (by omega)).2.symm:true=xk x))) (fun h4=>Sp ((limbs x).length=2) (fun h5=>I (?_:0<(limbs x).length) (I (?_:1<(limbs x).length) (I (Hl _ 32 rfl (qb _ _) (by have:=qb x 0;have:=qb x 1;omega):qJ .or .u64 (((limbs x).getD 0 0:Nat):Int) ((((limbs x).getD 1 0)*2^32:Nat):Int) ((((limbs x).getD 0 0)+(((limbs x).getD 1 0)*2^32):Nat):Int)) (I (by have:=qb x 0;have:=qb x 1;omega:((limbs x).getD 0 0)+(((limbs x).getD 1 0)*2^32)≤18446744073709551615) (q0N (by rw[(xw_y (by omega)).1];exact Sn (by omega):((limbs x).getD 0 0)+(((limbs x).getD 1 0)*2^32)=xw x) ((xw_y (by omega)).2.symm:true=xk x)))))) (fun h6=>q0N ((xw_n (by omega)).1.symm:0=xw x) ((xw_n (by omega)).2.symm:false=xk x)))))⟩<;>omega)
abbrev Nk:Ctr Tryz.prog:=FI.c Uj
abbrev X6:FI:=⟨87,[.mag],[(.n 1099511627776)],fun _=>[],fun b z=>(fun(x:Nat)=> .c (.one (.dt (.nat .i64) (b0 b) (bl x)))) z⟩
theorem X7:X6.OK Tryz.prog:=jp hmix 25 Tryz.func87 rfl rfl (by decide) [] (fun(x:Nat) b hx hp=>qn (Qw (Bnds.h1 hx)) rfl) (fun(x:Nat) hx hp=>by
 have hx0:qt x 1099511627776:=hx
 have hl0:(limbs x).length≤34359738369:=qg (q1E hx0)
 refine⟨.cond (.nil) (.h 3 2 (.i .sub) (.h 4 3 (.i .sub) (.loop [.s 3 (.nat .i64) (.n 1099511627872),.s 4 (.nat .u32) (.n 4294967295)] (fun((k,v):Nat×Nat)=>k+bl v=bl x) (fun((k,v):Nat×Nat)=>v) (fun((k,v):Nat×Nat)=> .nil)))),kcast (by kernel_rfl) (Sp ((limbs x).length=0) (fun h1=>(by have:=(nl0 (x:=x)).1 (by omega);subst this;rfl:0=bl x)) (fun h2=>have hpos:=(show 0<(limbs x).length by omega);have hBB:=ID hpos;I (?_:1≤(limbs x).length) (I (?_:1≤(limbs x).length) (I (?_:((limbs x).length) -1<(limbs x).length) (I (hBB:(32*(((limbs x).length) -1))+bl ((limbs x).getD (((limbs x).length) -1) 0)=bl x) (fun(k:Nat)(v:Nat)(hb3:HB [.s 3 (.nat .i64) (.n 1099511627872),.s 4 (.nat .u32) (.n 4294967295)] (k,v))(hC:k+bl v=bl x)=>have hv6:=(show k≤1099511627872 from hb3.1);have hv7:=(show v≤4294967295 from hb3.2);have hbx:=(Hn hx0:bl x≤1099511627776);Sp (v≠0) (fun h4=>I (show(k+1)≤1099511627872 by omega:Bnd (.nat .i64) (.n 1099511627872) (k+1)) (q0N (by have:=V6 (v:=v) (by omega);omega:(k+1)+bl (v/2^1)=bl x) (?_:v/2^1<v))) (fun h5=>(by have e:v=0:=(by omega);rw[e,Fu]at hC;omega:k=bl x))))))))⟩<;>omega)
abbrev X5:Ctr Tryz.prog:=FI.c X7
theorem Fk(l:List Nat)(u:Nat):q9 (l++[u])=q9 l+4294967296^l.length*u:=by rw[wQ];simp[q9]
theorem El: ∀(n:Nat),q9 (List.replicate n 0)=0
 |0=>rfl
 |n+1=>by rw[List.replicate_succ,q9,El n]
theorem Jg{l:List Nat}{u:Nat}(h: ∀v∈l,v<4294967296)(hu:u<4294967296): ∀v∈l++[u],v<4294967296:=by
 intro v hv
 rcases q1g.1 hv with hv|hv
 ·exact h v hv
 ·rw[q1n.1 hv];exact hu
theorem M0{l:List Nat}(hu: ∀v∈l,v<4294967296)(h:(limbs (q9 l)).length=l.length):l=limbs (q9 l):=by
 have h1:=I9 hu
 have h2:=I9 (j5 (q9 l))
 rw[qu,h]at h2
 exact h1.trans h2.symm
theorem q03{x n:Nat}(h:n<(limbs x).length):4294967296^n≤x:=by
 apply Nat.le_of_not_lt
 intro hl
 have:=FT (n:=x) (k:=n) hl
 unfold nl at this;omega
structure AddX (x y i c:Nat) (out:List Nat):Prop where
 hl:out.length=i
 hu: ∀u∈out,u<4294967296
 hc:c≤1
 hv:q9 out+4294967296^i*c=q9 ((limbs x).take i)+q9 ((limbs y).take i)
 hi:i≤max (limbs x).length (limbs y).length+1
 hm:i=max (limbs x).length (limbs y).length+1→c=0∧4294967296^(max (limbs x).length (limbs y).length)≤x+y
theorem AddX.start(x y:Nat):AddX x y 0 0 []:=⟨rfl,fun u hu=>by simp at hu,by omega,by simp[q9],by omega,fun h=>by omega⟩
theorem AddX.le{x y i c:Nat}{out:List Nat}(h:AddX x y i c out)(hc:i<(limbs x).length∨i<(limbs y).length∨c≠0):i≤max (limbs x).length (limbs y).length:=by
 have:=h.hi
 rcases q1K (max (limbs x).length (limbs y).length) i with e|e
 ·have:=h.hm (by omega);omega
 ·exact e
theorem AddX.step{x y i c s:Nat}{out:List Nat}(h:AddX x y i c out)(hc:i<(limbs x).length∨i<(limbs y).length∨c≠0)(hs:s=c+(limbs x).getD i 0+(limbs y).getD i 0):
  AddX x y (i+1) (s/2^32) (out++[s%4294967296]):=by
 have hx:=qb x i
 have hy:=qb y i
 have hc1:=h.hc
 have hle:=h.le hc
 refine⟨by simp[h.hl],Jg h.hu (q1N _ (by omega)),by omega,?_,by omega,?_⟩
 ·rw[Fk,h.hl,qL,qL,q20]
  have e:4294967296^i*(s%4294967296)+4294967296^i*4294967296*(s/2^32)=4294967296^i*s:=by
   rw[q1Q,←q1P,show s/2^32=s/4294967296 from rfl,Nat.mod_add_div]
  have e2:4294967296^i*s=4294967296^i*c+4294967296^i*(limbs x).getD i 0+4294967296^i*(limbs y).getD i 0:=by rw[hs,q1P,q1P]
  have:=h.hv
  omega
 ·intro e
  have hx0:(limbs x).getD i 0=0:=qy (by omega)
  have hy0:(limbs y).getD i 0=0:=qy (by omega)
  have hv:=h.hv
  have hc0:c=1:=by omega
  rw[jP (by omega),jP (by omega),qu,qu,hc0,show i=max (limbs x).length (limbs y).length by omega]at hv
  refine⟨by omega,by omega⟩
theorem AddX.step2{x y i c s u:Nat}{out:List Nat}(h:AddX x y i c out)(hc:i<(limbs x).length∨i<(limbs y).length∨c≠0)(hs:s=c+(limbs x).getD i 0+(limbs y).getD i 0)(hu:u=s%4294967296):
  AddX x y (i+1) (s/2^32) (out++[u]):=by subst hu;exact h.step hc hs
theorem AddX.fin{x y i c:Nat}{out:List Nat}(h:AddX x y i c out)(h1: ¬i<(limbs x).length)(h2: ¬i<(limbs y).length)(h0:c=0):out=limbs (x+y):=by
 have hv:=h.hv
 rw[jP (by omega),jP (by omega),qu,qu,h0,Nat.mul_zero,q1x]at hv
 rw[←hv]
 refine M0 h.hu ?_
 have l1:=J5 h.hu
 have l2:(limbs x).length≤(limbs (q9 out)).length:=vY (by omega)
 have l3:(limbs y).length≤(limbs (q9 out)).length:=vY (by omega)
 have hl:=h.hl
 have hi:=h.hi
 rcases q1K (max (limbs x).length (limbs y).length) i with e|e
 ·have h9:=(h.hm (by omega)).2
  have:max (limbs x).length (limbs y).length<(limbs (q9 out)).length:=by
   apply Nat.lt_of_not_le
   intro hl
   have h3:=jS (limbs (q9 out)) (j5 _)
   rw[qu]at h3
   have h4:=q1Y (show 0<4294967296 by omega) hl
   omega
  omega
 ·omega
theorem Ru{a b:List Nat}(hb:b≠[])(h:wA b=true):wA (a++b)=true:=by
 induction a with
 |nil=>exact h
 |cons v r ih=>rw[List.cons_append,E7 (by simp[hb])];exact ih
theorem Gl{x k:Nat}(hx:x≠0):List.replicate k 0++limbs x=limbs (x*4294967296^k):=by
 have hne:limbs x≠[]:=by rw[jG hx];simp
 have hu: ∀u∈List.replicate k 0++limbs x,u<4294967296:=by
  intro u hu
  rcases q1g.1 hu with hu|hu
  ·exact rep_lt k u hu
  ·exact j5 x u hu
 have:=DV hu (Ru hne (PL x))
 rw[wQ,El,qu,List.length_replicate,q22,q1R]at this
 exact this.symm
theorem K6(s:Nat):4294967296^(s/32)*2^(s%32)=2^s:=by
 rw[show(4294967296:Nat)=2^32 from rfl,←Nat.pow_mul,←q1X,Nat.div_add_mod]
structure UpX (x s i c:Nat) (out:List Nat):Prop where
 hl:out.length=s/32+i
 hu: ∀u∈out,u<4294967296
 hc:c<2^(s%32)
 hi:i≤(limbs x).length
 hv:q9 out+4294967296^(s/32+i)*c=4294967296^(s/32)*(q9 ((limbs x).take i)*2^(s%32))
theorem UpX.start(x s:Nat):UpX x s 0 0 (List.replicate (s/32) 0):=⟨by simp,rep_lt _,q1Z (by omega),by omega,by simp[q9,El]⟩
theorem UpX.step{x s i c d:Nat}{out:List Nat}(h:UpX x s i c out)(hi:i<(limbs x).length)(hd:d=c+(limbs x).getD i 0*2^(s%32)):UpX x s (i+1) (d/2^32) (out++[d%4294967296]):=by
 have hx:=qb x i
 have hc:=h.hc
 refine⟨by simp[h.hl];omega,Jg h.hu (q1N _ (by omega)),?_,by omega,?_⟩
 ·rw[q1z (by omega)]
  have h1:(limbs x).getD i 0*2^(s%32)≤4294967295*2^(s%32):=q1U _ (by omega)
  omega
 ·rw[Fk,h.hl,qL,←q1v,q20]
  have e:4294967296^(s/32+i)*(d%4294967296)+4294967296^(s/32+i)*4294967296*(d/2^32)=4294967296^(s/32+i)*d:=by
   rw[q1Q,←q1P,show d/2^32=d/4294967296 from rfl,Nat.mod_add_div]
  have e2:4294967296^(s/32+i)*d=4294967296^(s/32+i)*c+4294967296^(s/32)*(4294967296^i*(limbs x).getD i 0*2^(s%32)):=by
   rw[hd,q1P,q1X];simp only[q1Q]
  have:=h.hv
  rw[q1w,q1P]
  omega
theorem UpX.fin{x s i c:Nat}{out:List Nat}(h:UpX x s i c out)(hi: ¬i<(limbs x).length):q9 (out++[c])=x*2^s∧ ∀u∈out++[c],u<4294967296:=by
 have hc:=h.hc
 have h1:=q1Y (show 0<2 by omega) (show s%32≤32 by omega)
 refine⟨?_,Jg h.hu (by omega)⟩
 have hv:=h.hv
 rw[jP (by omega),qu]at hv
 rw[Fk,h.hl,hv,←K6 s,Nat.mul_left_comm]
theorem q0G{x s i c:Nat}{out:List Nat}(h:UpX x s i c out):c+(limbs x).getD i 0*2^(s%32)<18446744073709551616:=K4 (qb x i) (by omega) h.hc
theorem DI: ∀(k x:Nat),(limbs x).drop k=limbs (x/4294967296^k)
 |0,x=>by simp
 |k+1,x=>by
  by_cases e:x=0
  ·subst e;simp[wx]
  ·rw[jG e,List.drop_succ_cons,DI k,q20,q1R,Nat.div_div_eq_div_mul]
structure DownX (w r i:Nat) (out:List Nat):Prop where
 hl:out.length=(limbs w).length
 hi:i≤(limbs w).length
 hu: ∀u∈out,u<4294967296
 hv:q9 (out.take i)=w/2^r%4294967296^i
theorem DownX.start(w r:Nat):DownX w r 0 (List.replicate (limbs w).length 0):=⟨by simp,by omega,rep_lt _,by simp[q9,Nat.mod_one]⟩
theorem Tb{m r:Nat}(hr:r≤32):m/2^r%4294967296=(m%18446744073709551616)/2^r%4294967296:=by
 have h1:(2:Nat)^r*2^(64-r)=18446744073709551616:=by rw[←q1X,show r+(64-r)=64 by omega]
 have h2:(2:Nat)^(64-r)=4294967296*2^(32-r):=by rw[show(4294967296:Nat)=2^32 from rfl,←q1X];congr 1;omega
 have h3:=Nat.div_add_mod m 18446744073709551616
 generalize m%18446744073709551616=v at*
 rw[←h3,←h1,q1Q,Nat.mul_add_div (q1Z (by omega)),h2,q1Q,Nat.mul_add_mod]
theorem DownX.step{w r i v:Nat}{out:List Nat}(h:DownX w r i out)(hr:r≤32)(hi:i<(limbs w).length)(hv:v=(limbs w).getD i 0+(limbs w).getD (i+1) 0*4294967296):
  DownX w r (i+1) (out.set i (v/2^r%4294967296)):=by
 have hl:=h.hl
 refine⟨by simp[hl],by omega,jQ h.hu (q1N _ (by omega)),?_⟩
 rw[vn (by omega),h.hv,Nat.mod_pow_succ]
 congr 2
 have e1:=A1 (j5 w) i
 have e2:=A1 (j5 w) (i+1)
 rw[qu]at e1 e2
 rw[q20,←Nat.div_div_eq_div_mul]at e2
 rw[e1,e2]at hv
 rw[Nat.div_div_eq_div_mul,q1R,←Nat.div_div_eq_div_mul,@Tb (w/4294967296^i) r hr]
 congr 2
 generalize w/4294967296^i=m at*
 omega
theorem DownX.fin{w r i:Nat}{out:List Nat}(h:DownX w r i out)(hi: ¬i<(limbs w).length):q9 out=w/2^r:=by
 have hv:=h.hv
 have h1:=h.hi
 have e:i=(limbs w).length:=by omega
 have hl:=h.hl
 rw[jP (by omega)]at hv
 rw[hv,q1M]
 have:=jS (limbs w) (j5 w)
 rw[qu,←e]at this
 exact q1I (q1y _ _) this
theorem Lu(x s:Nat):x/4294967296^(s/32)/2^(s%32)=x/2^s:=by rw[Nat.div_div_eq_div_mul,K6]
theorem QN{x s:Nat}(h:(limbs x).length≤s/32):0=x/2^s:=by
 rw[←Lu,Nat.div_eq_of_lt (a:=x),Nat.zero_div]
 have h1:=jS (limbs x) (j5 x)
 rw[qu]at h1
 exact q1J h1 (q1Y (by omega) h)
theorem Ki: ∀{ls:List Nat}{k d:Nat},k<ls.length→ls.getD k 0=0→q9 (ls.set k d)=q9 ls+4294967296^k*d
 |u::r,0,d,_,h=>by simp at h;subst h;simp[q9];omega
 |u::r,k+1,d,hk,h=>by
  simp only[List.getD_cons_succ]at h
  simp only[q1a]at hk
  rw[List.set_cons_succ,q9,q9,Ki (by omega) h,q20,q1P,←q1Q,q1R 4294967296 (4294967296^k)];omega
structure DX (A V L:Nat) (z:Int) (q:List Nat) (r:Nat):Prop where
 hz: -1≤z
 hz1:z<L
 hl:q.length=L
 hu: ∀u∈q,u<4294967296
 hv:A=q9 q*V+r
 hr:r<V*4294967296^(z+1).toNat
 h0: ∀j:Nat,(j:Int)≤z→q.getD j 0=0
theorem DX.start{A V L n:Nat}(hn0:0<n)(hn:n=(limbs V).length)(hn:n≤(limbs A).length)(hL:L=(limbs A).length-n+1):DX A V L (((limbs A).length:Int) -n) (List.replicate L 0) A:=by
 refine⟨by omega,by omega,by simp,rep_lt _,by rw[El];omega,?_,fun j _=>?_⟩
 ·have h1:=jS (limbs A) (j5 A)
  rw[qu]at h1
  have h2:=q03 (x:=V) (n:=n-1) (by omega)
  have h3:(4294967296:Nat)^(limbs A).length=4294967296^(n-1)*4294967296^((limbs A).length-n+1):=by rw[←q1X];congr 1;omega
  rw[show((((limbs A).length:Int) -n+1).toNat)=(limbs A).length-n+1 by omega]
  rw[h3]at h1
  exact q1J h1 (q1U _ h2)
 ·simp[q11,List.getElem?_replicate];split<;>rfl
structure EX (V k r d p:Nat):Prop where
 hp:p=V*d*4294967296^k
 hd:r/(V*4294967296^k)≤d
 h1:d≤4294967295
theorem DX.est{A V L n k T:Nat}{z:Int}{q:List Nat}{r:Nat}(h:DX A V L z q r)(hz:0≤z)(hk:k=z.toNat)(hV:0<V)(hn0:0<n)(hn:n=(limbs V).length)
  (hT:T=(limbs r).getD (k+n) 0*4294967296+(limbs r).getD (k+n-1) 0):
  EX V k r (min (T/(limbs V).getD (n-1) 0) 4294967295) (V*min (T/(limbs V).getD (n-1) 0) 4294967295*4294967296^k):=by
 have hP:=q1V hV (q1Z (n:=k) (show 0<4294967296 by omega))
 have hr:=h.hr
 rw[show(z+1).toNat=k+1 by omega,q20,←q1Q]at hr
 have hq:r/(V*4294967296^k)<4294967296:=by rw[q1z hP,q1R];exact hr
 refine⟨rfl,Nat.le_min.2 ⟨?_,by omega⟩,Nat.min_le_right _ _⟩
 have hv:=GH V (n-1) (by omega)
 have hvp:0<(limbs V).getD (n-1) 0:=by
  have:=wR (x:=V) (by omega)
  rw[←hn]at this;omega
 rw[Nat.le_div_iff_mul_le hvp]
 have e1:=A1 (j5 r) (k+n)
 have e2:=A1 (j5 r) (k+n-1)
 rw[qu]at e1 e2
 have hVl:=jS (limbs V) (j5 V)
 rw[qu,←hn]at hVl
 --the top of r
 have hT2:T=r/4294967296^(k+n-1):=by
  have hrl:r/4294967296^(k+n-1)<18446744073709551616:=by
   rw[q1z (q1Z (by omega))]
   have e3:18446744073709551616*4294967296^(k+n-1)=4294967296^n*4294967296^k*4294967296:=by
    rw[←q1X,show(18446744073709551616:Nat)=4294967296^2 from rfl,←q1X,←q20];congr 1;omega
   rw[e3]
   refine q1J hr (q1U _ (q1U _ (q1E hVl)))
  have e4:r/4294967296^(k+n)=r/4294967296^(k+n-1)/4294967296:=by
   rw[Nat.div_div_eq_div_mul,←q20];congr 2;omega
  rw[e4]at e1
  rw[hT,e1,e2]
  generalize r/4294967296^(k+n-1)=m at*
  omega
 rw[hT2,Nat.le_div_iff_mul_le (q1Z (by omega)),hv]
 have h5:V/4294967296^(n-1)*4294967296^(n-1)≤V:=Nat.div_mul_le_self _ _
 have h6:r/(V*4294967296^k)*(V*4294967296^k)≤r:=Nat.div_mul_le_self _ _
 have e5:(4294967296:Nat)^(k+n-1)=4294967296^(n-1)*4294967296^k:=by rw[←q1X];congr 1;omega
 rw[e5,q1Q,←q1Q (V/_)]
 exact q1H (q1T _ (q1U _ h5)) h6
theorem EX.gt{V k r d p:Nat}(h:EX V k r d p)(hV:0<V)(hc:r<p):1≤d∧V*4294967296^k≤p∧EX V k r (d-1) (p-V*4294967296^k):=by
 have hP:=q1V hV (q1Z (n:=k) (show 0<4294967296 by omega))
 have h1:=h.h1
 have hp:p=d*(V*4294967296^k):=by rw[h.hp,q1R V d,q1Q]
 have hlt:r/(V*4294967296^k)<d:=by rw[q1z hP,←hp];exact hc
 have hd1:1≤d:=q1I (q23 _) hlt
 refine⟨hd1,?_,?_,Nat.le_sub_one_of_lt hlt,by omega⟩
 ·rw[hp];exact Nat.le_mul_of_pos_left _ (by omega)
 ·rw[q1R V (d-1),q1Q,Nat.sub_mul,←hp,Nat.one_mul]
theorem DX.next{A V L k d p:Nat}{z:Int}{q:List Nat}{r:Nat}(h:DX A V L z q r)(hz:0≤z)(hk:k=z.toNat)(hV:0<V)(e:EX V k r d p)(hc:p≤r):DX A V L (z-1) (q.set k d) (r-p):=by
 have hP:=q1V hV (q1Z (n:=k) (show 0<4294967296 by omega))
 have hz1:=h.hz1
 have hl:=h.hl
 have h1:=e.h1
 have hp:p=d*(V*4294967296^k):=by rw[e.hp,q1R V d,q1Q]
 have hd:r<(d+1)*(V*4294967296^k):=by rw[←q1z hP];exact Nat.lt_succ_of_le e.hd
 refine⟨by omega,by omega,by simp[hl],jQ h.hu (by omega),?_,?_,fun j hj=>?_⟩
 ·rw[Ki (by omega) (h.h0 k (by omega)),q1w,h.hv]
  rw[q1R (4294967296^k) d,q1Q,q1R (4294967296^k) V,←hp];omega
 ·rw[show(z-1+1).toNat=k by omega]
  rw[q1w,←hp]at hd;omega
 ·rw[CN (by omega)];exact h.h0 j (by omega)
theorem DX.fin{x y s L:Nat}{z:Int}{q:List Nat}{r:Nat}(h:DX (x*2^s) (y*2^s) L z q r)(hy:0<y)(hz:z<0):q9 q=x/y∧r/2^s=x%y:=by
 have hp:=q1Z (n:=s) (show 0<2 by omega)
 have h1:=h.hz
 have hr:=h.hr
 have hv:=h.hv
 rw[show(z+1).toNat=0 by omega,Nat.pow_zero,Nat.mul_one]at hr
 have e1:(x*2^s)/(y*2^s)=q9 q:=by
  rw[hv,q1R (q9 q),Nat.mul_add_div (q1V hy hp),Nat.div_eq_of_lt hr];rfl
 have e2:(x*2^s)%(y*2^s)=r:=by rw[hv,q1R (q9 q),Nat.mul_add_mod,q1M hr]
 rw[Nat.mul_div_mul_right _ _ hp]at e1
 rw[Nat.mul_mod_mul_right]at e2
 exact⟨e1.symm,by rw[←e2,Nat.mul_div_cancel _ hp]⟩
theorem JV{x k a c:Nat}(h:qt x a)(hk:k≤c):qt (x*4294967296^k) (a+32*c):=by
 unfold qt at*
 rw[show(4294967296:Nat)=2^32 from rfl,←Nat.pow_mul,q1X]
 exact q1J (Nat.mul_lt_mul_of_pos_right h (q1Z (by omega))) (q1T _ (q1Y (by omega) (by omega)))
theorem XY{x s a c:Nat}(h:qt x a)(hs:s≤c):qt (x*2^s) (a+c):=by
 unfold qt at*
 rw[q1X]
 exact q1J (Nat.mul_lt_mul_of_pos_right h (q1Z (by omega))) (q1T _ (q1Y (by omega) hs))
theorem J1{y:Nat}:qt (y/4294967296^((limbs y).length-1)) 32:=by
 unfold qt
 rw[q1z (q1Z (by omega)),show(2:Nat)^32=4294967296 from rfl,q1R,←q20]
 have h1:=jS (limbs y) (j5 y)
 rw[qu]at h1
 exact q1J h1 (q1Y (by omega) (by omega))
theorem Xo{b:Nat}(h:b<4294967296):qJ .or .u64 0 (b:Int) ((0+b:Nat):Int):=Ce (a:=0) (b:=b) 0 32 rfl h (by omega)
abbrev Zd:FI:=⟨34,[.mag,.mag],[(.n 1099511627776),(.n 1099511627776)],fun _=>[],fun b z=>(fun(x:Nat)(y:Nat)=> .c (.one (.dt .mag (.n (max (b0 b).nb (b1 b).nb+1)) (x+y)))) z.1 z.2⟩
theorem Ze:Zd.OK Tryz.prog:=jp hmix 54 Tryz.func34 rfl rfl (by decide) [] (fun(x:Nat)(y:Nat) b hx hp=>qn (FN (Bnds.h2 hx).1.mag (Bnds.h2 hx).2.mag) rfl) (fun(x:Nat)(y:Nat) hx hp=>by
 have hx0:qt x 1099511627776:=hx.1
 have hl0:(limbs x).length≤34359738369:=qg (q1E hx0)
 have hx1:qt y 1099511627776:=hx.2
 have hl1:(limbs y).length≤34359738369:=qg (q1E hx1)
 refine⟨.loop [.s 7 (.nat .i64) (.n 34359738371),.s 6 (.nat .u64) (.n 1),.g 5 90005 (.nat .u32) (.n 4294967295) 34359738371] (fun((i,c,out):Nat×Nat×List Nat)=>AddX x y i c out) (fun((i,c,out):Nat×Nat×List Nat)=>max (limbs x).length (limbs y).length+1-i) (fun((i,c,out):Nat×Nat×List Nat)=> .cond (.cond (.cond (.h 10 3 (.mk (.im (.nat .u32) (.n 4294967295))) (.nil)) (.h 10 3 (.mk (.im (.nat .u32) (.n 4294967295))) (.nil))) (.cond (.h 10 3 (.mk (.im (.nat .u32) (.n 4294967295))) (.nil)) (.h 10 3 (.mk (.im (.nat .u32) (.n 4294967295))) (.nil)))) (.cond (.cond (.cond (.h 10 3 (.mk (.im (.nat .u32) (.n 4294967295))) (.nil)) (.h 10 3 (.mk (.im (.nat .u32) (.n 4294967295))) (.nil))) (.cond (.h 10 3 (.mk (.im (.nat .u32) (.n 4294967295))) (.nil)) (.h 10 3 (.mk (.im (.nat .u32) (.n 4294967295))) (.nil)))) (.cond (.cond (.cond (.h 10 3 (.mk (.im (.nat .u32) (.n 4294967295))) (.nil)) (.h 10 3 (.mk (.im (.nat .u32) (.n 4294967295))) (.nil))) (.cond (.h 10 3 (.mk (.im (.nat .u32) (.n 4294967295))) (.nil)) (.h 10 3 (.mk (.im (.nat .u32) (.n 4294967295))) (.nil)))) (.pre 12 (.frz 90005 true [5]) (.h 12 1 (.mag (x+y) 1099511627777) (.nil)))))),kcast (by kernel_rfl) (I (rfl:0=([]:List Nat).length) (I (AddX.start x y:AddX x y 0 0 ([]:List Nat)) (fun(i:Nat)(c:Nat)(out:List Nat)(hb1:HB [.s 7 (.nat .i64) (.n 34359738371),.s 6 (.nat .u64) (.n 1),.g 5 90005 (.nat .u32) (.n 4294967295) 34359738371] (i,c,out))(hI:AddX x y i c out)=>have hv26:=(show i≤34359738371 from hb1.1);have hv27:=(show c≤1 from hb1.2.1);have hv28:=(show out.length≤34359738371 from hb1.2.2.1);have hIl:=hI.hl;have hIi:=hI.hi;have hIc:=hI.hc;have hg1:=qb x i;have hg2:=qb y i;Sp (i<(limbs x).length) (fun h2=>Sp (i<(limbs x).length) (fun h3=>I (?_:i<(limbs x).length) (Sp (i<(limbs y).length) (fun h4=>I (?_:i<(limbs y).length) (I (?_:out.length=out.length) (I (show(i+1)≤34359738371 by omega:Bnd (.nat .i64) (.n 34359738371) (i+1)) (I (by(try simp only[q19,q1a,q1d])<;>omega:out.length+[((c+((limbs x).getD i 0))+((limbs y).getD i 0))%4294967296].length=(out++[((c+((limbs x).getD i 0))+((limbs y).getD i 0))%4294967296]).length) (I (by(try simp only[q19,q1a,q1d])<;>omega:out.length+[((c+((limbs x).getD i 0))+((limbs y).getD i 0))%4294967296].length≤34359738371) (q0N (hI.step2 (by omega) (by first|rfl|(have hq1:= @qy (limbs x) i;have hq2:= @qy (limbs y) i;omega)) (by omega):AddX x y (i+1) (((c+((limbs x).getD i 0))+((limbs y).getD i 0))/2^32) (out++[((c+((limbs x).getD i 0))+((limbs y).getD i 0))%4294967296])) (by have:=hI.le (by omega);omega:max (limbs x).length (limbs y).length+1-(i+1)<max (limbs x).length (limbs y).length+1-i))))))) (fun h5=>I (?_:out.length=out.length) (I (show(i+1)≤34359738371 by omega:Bnd (.nat .i64) (.n 34359738371) (i+1)) (I (by(try simp only[q19,q1a,q1d])<;>omega:out.length+[(c+((limbs x).getD i 0))%4294967296].length=(out++[(c+((limbs x).getD i 0))%4294967296]).length) (I (by(try simp only[q19,q1a,q1d])<;>omega:out.length+[(c+((limbs x).getD i 0))%4294967296].length≤34359738371) (q0N (hI.step2 (by omega) (by first|rfl|(have hq1:= @qy (limbs x) i;have hq2:= @qy (limbs y) i;omega)) (by omega):AddX x y (i+1) ((c+((limbs x).getD i 0))/2^32) (out++[(c+((limbs x).getD i 0))%4294967296])) (by have:=hI.le (by omega);omega:max (limbs x).length (limbs y).length+1-(i+1)<max (limbs x).length (limbs y).length+1-i)))))))) (fun h6=>Sp (i<(limbs y).length) (fun h7=>I (?_:i<(limbs y).length) (I (?_:out.length=out.length) (I (show(i+1)≤34359738371 by omega:Bnd (.nat .i64) (.n 34359738371) (i+1)) (I (by(try simp only[q19,q1a,q1d])<;>omega:out.length+[(c+((limbs y).getD i 0))%4294967296].length=(out++[(c+((limbs y).getD i 0))%4294967296]).length) (I (by(try simp only[q19,q1a,q1d])<;>omega:out.length+[(c+((limbs y).getD i 0))%4294967296].length≤34359738371) (q0N (hI.step2 (by omega) (by first|rfl|(have hq1:= @qy (limbs x) i;have hq2:= @qy (limbs y) i;omega)) (by omega):AddX x y (i+1) ((c+((limbs y).getD i 0))/2^32) (out++[(c+((limbs y).getD i 0))%4294967296])) (by have:=hI.le (by omega);omega:max (limbs x).length (limbs y).length+1-(i+1)<max (limbs x).length (limbs y).length+1-i))))))) (fun h8=>I (?_:out.length=out.length) (I (show(i+1)≤34359738371 by omega:Bnd (.nat .i64) (.n 34359738371) (i+1)) (I (by(try simp only[q19,q1a,q1d])<;>omega:out.length+[c].length=(out++[c]).length) (I (by(try simp only[q19,q1a,q1d])<;>omega:out.length+[c].length≤34359738371) (q0N (hI.step2 (by omega) (by first|rfl|(have hq1:= @qy (limbs x) i;have hq2:= @qy (limbs y) i;omega)) (by omega):AddX x y (i+1) (c/2^32) (out++[c])) (by have:=hI.le (by omega);omega:max (limbs x).length (limbs y).length+1-(i+1)<max (limbs x).length (limbs y).length+1-i)))))))) (fun h9=>Sp (i<(limbs y).length) (fun h10=>Sp (i<(limbs x).length) (fun h11=>I (?_:i<(limbs x).length) (Sp (i<(limbs y).length) (fun h12=>I (?_:i<(limbs y).length) (I (?_:out.length=out.length) (I (show(i+1)≤34359738371 by omega:Bnd (.nat .i64) (.n 34359738371) (i+1)) (I (by(try simp only[q19,q1a,q1d])<;>omega:out.length+[((c+((limbs x).getD i 0))+((limbs y).getD i 0))%4294967296].length=(out++[((c+((limbs x).getD i 0))+((limbs y).getD i 0))%4294967296]).length) (I (by(try simp only[q19,q1a,q1d])<;>omega:out.length+[((c+((limbs x).getD i 0))+((limbs y).getD i 0))%4294967296].length≤34359738371) (q0N (hI.step2 (by omega) (by first|rfl|(have hq1:= @qy (limbs x) i;have hq2:= @qy (limbs y) i;omega)) (by omega):AddX x y (i+1) (((c+((limbs x).getD i 0))+((limbs y).getD i 0))/2^32) (out++[((c+((limbs x).getD i 0))+((limbs y).getD i 0))%4294967296])) (by have:=hI.le (by omega);omega:max (limbs x).length (limbs y).length+1-(i+1)<max (limbs x).length (limbs y).length+1-i))))))) (fun h13=>I (?_:out.length=out.length) (I (show(i+1)≤34359738371 by omega:Bnd (.nat .i64) (.n 34359738371) (i+1)) (I (by(try simp only[q19,q1a,q1d])<;>omega:out.length+[(c+((limbs x).getD i 0))%4294967296].length=(out++[(c+((limbs x).getD i 0))%4294967296]).length) (I (by(try simp only[q19,q1a,q1d])<;>omega:out.length+[(c+((limbs x).getD i 0))%4294967296].length≤34359738371) (q0N (hI.step2 (by omega) (by first|rfl|(have hq1:= @qy (limbs x) i;have hq2:= @qy (limbs y) i;omega)) (by omega):AddX x y (i+1) ((c+((limbs x).getD i 0))/2^32) (out++[(c+((limbs x).getD i 0))%4294967296])) (by have:=hI.le (by omega);omega:max (limbs x).length (limbs y).length+1-(i+1)<max (limbs x).length (limbs y).length+1-i)))))))) (fun h14=>Sp (i<(limbs y).length) (fun h15=>I (?_:i<(limbs y).length) (I (?_:out.length=out.length) (I (show(i+1)≤34359738371 by omega:Bnd (.nat .i64) (.n 34359738371) (i+1)) (I (by(try simp only[q19,q1a,q1d])<;>omega:out.length+[(c+((limbs y).getD i 0))%4294967296].length=(out++[(c+((limbs y).getD i 0))%4294967296]).length) (I (by(try simp only[q19,q1a,q1d])<;>omega:out.length+[(c+((limbs y).getD i 0))%4294967296].length≤34359738371) (q0N (hI.step2 (by omega) (by first|rfl|(have hq1:= @qy (limbs x) i;have hq2:= @qy (limbs y) i;omega)) (by omega):AddX x y (i+1) ((c+((limbs y).getD i 0))/2^32) (out++[(c+((limbs y).getD i 0))%4294967296])) (by have:=hI.le (by omega);omega:max (limbs x).length (limbs y).length+1-(i+1)<max (limbs x).length (limbs y).length+1-i))))))) (fun h16=>I (?_:out.length=out.length) (I (show(i+1)≤34359738371 by omega:Bnd (.nat .i64) (.n 34359738371) (i+1)) (I (by(try simp only[q19,q1a,q1d])<;>omega:out.length+[c].length=(out++[c]).length) (I (by(try simp only[q19,q1a,q1d])<;>omega:out.length+[c].length≤34359738371) (q0N (hI.step2 (by omega) (by first|rfl|(have hq1:= @qy (limbs x) i;have hq2:= @qy (limbs y) i;omega)) (by omega):AddX x y (i+1) (c/2^32) (out++[c])) (by have:=hI.le (by omega);omega:max (limbs x).length (limbs y).length+1-(i+1)<max (limbs x).length (limbs y).length+1-i)))))))) (fun h17=>Sp (c≠0) (fun h18=>Sp (i<(limbs x).length) (fun h19=>I (?_:i<(limbs x).length) (Sp (i<(limbs y).length) (fun h20=>I (?_:i<(limbs y).length) (I (?_:out.length=out.length) (I (show(i+1)≤34359738371 by omega:Bnd (.nat .i64) (.n 34359738371) (i+1)) (I (by(try simp only[q19,q1a,q1d])<;>omega:out.length+[((c+((limbs x).getD i 0))+((limbs y).getD i 0))%4294967296].length=(out++[((c+((limbs x).getD i 0))+((limbs y).getD i 0))%4294967296]).length) (I (by(try simp only[q19,q1a,q1d])<;>omega:out.length+[((c+((limbs x).getD i 0))+((limbs y).getD i 0))%4294967296].length≤34359738371) (q0N (hI.step2 (by omega) (by first|rfl|(have hq1:= @qy (limbs x) i;have hq2:= @qy (limbs y) i;omega)) (by omega):AddX x y (i+1) (((c+((limbs x).getD i 0))+((limbs y).getD i 0))/2^32) (out++[((c+((limbs x).getD i 0))+((limbs y).getD i 0))%4294967296])) (by have:=hI.le (by omega);omega:max (limbs x).length (limbs y).length+1-(i+1)<max (limbs x).length (limbs y).length+1-i))))))) (fun h21=>I (?_:out.length=out.length) (I (show(i+1)≤34359738371 by omega:Bnd (.nat .i64) (.n 34359738371) (i+1)) (I (by(try simp only[q19,q1a,q1d])<;>omega:out.length+[(c+((limbs x).getD i 0))%4294967296].length=(out++[(c+((limbs x).getD i 0))%4294967296]).length) (I (by(try simp only[q19,q1a,q1d])<;>omega:out.length+[(c+((limbs x).getD i 0))%4294967296].length≤34359738371) (q0N (hI.step2 (by omega) (by first|rfl|(have hq1:= @qy (limbs x) i;have hq2:= @qy (limbs y) i;omega)) (by omega):AddX x y (i+1) ((c+((limbs x).getD i 0))/2^32) (out++[(c+((limbs x).getD i 0))%4294967296])) (by have:=hI.le (by omega);omega:max (limbs x).length (limbs y).length+1-(i+1)<max (limbs x).length (limbs y).length+1-i)))))))) (fun h22=>Sp (i<(limbs y).length) (fun h23=>I (?_:i<(limbs y).length) (I (?_:out.length=out.length) (I (show(i+1)≤34359738371 by omega:Bnd (.nat .i64) (.n 34359738371) (i+1)) (I (by(try simp only[q19,q1a,q1d])<;>omega:out.length+[(c+((limbs y).getD i 0))%4294967296].length=(out++[(c+((limbs y).getD i 0))%4294967296]).length) (I (by(try simp only[q19,q1a,q1d])<;>omega:out.length+[(c+((limbs y).getD i 0))%4294967296].length≤34359738371) (q0N (hI.step2 (by omega) (by first|rfl|(have hq1:= @qy (limbs x) i;have hq2:= @qy (limbs y) i;omega)) (by omega):AddX x y (i+1) ((c+((limbs y).getD i 0))/2^32) (out++[(c+((limbs y).getD i 0))%4294967296])) (by have:=hI.le (by omega);omega:max (limbs x).length (limbs y).length+1-(i+1)<max (limbs x).length (limbs y).length+1-i))))))) (fun h24=>I (?_:out.length=out.length) (I (show(i+1)≤34359738371 by omega:Bnd (.nat .i64) (.n 34359738371) (i+1)) (I (by(try simp only[q19,q1a,q1d])<;>omega:out.length+[c].length=(out++[c]).length) (I (by(try simp only[q19,q1a,q1d])<;>omega:out.length+[c].length≤34359738371) (q0N (hI.step2 (by omega) (by first|rfl|(have hq1:= @qy (limbs x) i;have hq2:= @qy (limbs y) i;omega)) (by omega):AddX x y (i+1) (c/2^32) (out++[c])) (by have:=hI.le (by omega);omega:max (limbs x).length (limbs y).length+1-(i+1)<max (limbs x).length (limbs y).length+1-i)))))))) (fun h25=>I (?_:out.length=out.length) (I (hI.fin (by omega) (by omega) (by omega):out=limbs (x+y)) (I (qc (by decide) (FN hx0 hx1):qt (x+y) 1099511627777) ((Eq.refl (x+y)))))))))))⟩<;>omega)
abbrev Zc:Ctr Tryz.prog:=FI.c Ze
abbrev Qm:FO:=⟨89,[.mag,(.nat .i64)],[(.n 1099511627776),(.n 17179869184)],fun _=>[],fun k b z=>(fun(x:Nat)(j:Nat)=> .c (.one (.gs k ((limbs (x*4294967296^j)).length) 1 (((b0 b).nb+32*(b1 b).nb)/32+1)))) z.1 z.2,fun b z=>(fun(x:Nat)(j:Nat)=> .gro (.nat .u32) (.n 4294967295) (limbs (x*4294967296^j))) z.1 z.2⟩
theorem Qn:Qm.OK Tryz.prog:=mkO hmix 12 11 Tryz.func89 rfl rfl (by decide) [] (fun _=>rfl) (fun _ _ _=>rfl) (fun _ _=>rfl) (fun _ _ _=>⟨rfl,rfl⟩) (fun(x:Nat)(j:Nat) k b hx hp=>⟨qn (qg (q1E (JV (Bnds.h2 hx).1.mag (Bnds.h2 hx).2.nat))) rfl,fun u hu=>q1F (j5 _ u hu)⟩) (fun(x:Nat)(j:Nat) hx hp=>by
 have hx0:qt x 1099511627776:=hx.1
 have hl0:(limbs x).length≤34359738369:=qg (q1E hx0)
 have hx1:j≤17179869184:=hx.2
 refine bodyO.g (.cond (.nil) (.h 3 1 (.mk (.gro (.nat .u32) (.n 4294967295))) (.nil))) (kcast (by kernel_rfl) (Sp ((limbs x).length=0) (fun h1=>q0N (by rw[nl0.1 (show(limbs x).length=0 by assumption),q24];rfl:([]:List Nat)=limbs (x*4294967296^j)) ((by rw[nl0.1 (show(limbs x).length=0 by assumption),q24];rfl:0=(limbs (x*4294967296^j)).length))) (fun h2=>I (?_:j=j) (I ((List.length_replicate ..).symm:j=(List.replicate j (0:Nat)).length) (q0N (Gl (mt nl0.2 (by assumption)):(List.replicate j (0:Nat))++(limbs x)=limbs (x*4294967296^j)) ((by rw[←Gl (mt nl0.2 (by assumption))];simp:j+(limbs x).length=(limbs (x*4294967296^j)).length)))))))<;>omega)
abbrev Ql(k:Nat)(b:List Bd)(x:Nat)(j:Nat):WV:= .c (.one (.gs k ((limbs (x*4294967296^j)).length) 1 (((b0 b).nb+32*(b1 b).nb)/32+1)))
abbrev Qk(b:List Bd)(x:Nat)(j:Nat):WB:= .gro (.nat .u32) (.n 4294967295) (limbs (x*4294967296^j))
theorem Nj(d:Nat)(x:Nat)(j:Nat)(hx:Bnds [.mag,(.nat .i64)] [(.n 1099511627776),(.n 17179869184)] (x,j))(hp: ∀c0∈([]:List Prop),c0):jW Tryz.prog 89 (argsE [.mag,(.nat .i64)] (x,j)) [] (Ql d [(.n 1099511627776),(.n 17179869184)] x j).exp [(d,some (Qk [(.n 1099511627776),(.n 17179869184)] x j).exp)]:=Qn.sig d (x,j) hx hp
abbrev P5(b:Bd)(x k:Nat):WV:= .c (.one (.dt .mag b (x*4294967296^k)))
theorem NG(x k:Nat)(hx:Bnds [.mag,.nat .i64] [.n 1099511627776,.n 17179869184] (x,k))(b:Bd):Sig Tryz.prog 89 (argsE [.mag,.nat .i64] (x,k)) (P5 b x k).exp:=by
 have h:=frzO (Nj 0 x k hx (by intro p hp;cases hp)) (by decide) rfl .u
 rw[magE (x*4294967296^k) .u b]at h;exact h
theorem SS(x:Nat)(z:Int)(h:0≤z):argsE [.mag,.int .i64] (x,z)=argsE [.mag,.nat .i64] (x,z.toNat):=by
 obtain⟨n,rfl⟩:=Int.eq_ofNat_of_zero_le h;rfl
def zy:Ctr Tryz.prog:=⟨89,[.mag,.int .i64],[.n 1099511627776,.n 17179869184],fun z=>[0≤z.2],fun b z=>P5 (.n ((b0 b).nb+32*(b1 b).nb)) z.1 z.2.toNat,
 fun z hx hp=>by
  have h0:0≤z.2:=hp _ q1j
  have h:=NG z.1 z.2.toNat ⟨hx.1,by have h2:Int.natAbs z.2≤17179869184:=hx.2;show z.2.toNat≤_;omega⟩ (.n (1099511627776+32*17179869184))
  rw[←SS z.1 z.2 h0]at h;exact h,
 fun _ _=>rfl,fun b z hx hp=>qn (JV (Bnds.h2 hx).1.mag (by have h2:=(Bnds.h2 hx).2.int;show z.2.toNat≤_;omega)) rfl⟩
abbrev q0K:FI:=⟨88,[.mag,(.nat .i64)],[(.n 1030792151040),(.n 68719476736)],fun _=>[],fun b z=>(fun(x:Nat)(s:Nat)=> .c (.one (.dt .mag (.n ((b0 b).nb+(b1 b).nb)) (x*2^s)))) z.1 z.2⟩
theorem q0L:q0K.OK Tryz.prog:=jp hmix 40 Tryz.func88 rfl rfl (by decide) [] (fun(x:Nat)(s:Nat) b hx hp=>qn (XY (Bnds.h2 hx).1.mag (Bnds.h2 hx).2.nat) rfl) (fun(x:Nat)(s:Nat) hx hp=>by
 have hx0:qt x 1030792151040:=hx.1
 have hl0:(limbs x).length≤32212254721:=qg (q1E hx0)
 have hx1:s≤68719476736:=hx.2
 refine⟨.h 1 2 (.mk (.gro (.nat .u32) (.n 4294967295))) (.loop [.s 7 (.nat .i64) (.n 32212254721),.s 6 (.nat .u64) (.n 4294967295),.g 5 90005 (.nat .u32) (.n 4294967295) 100931731457] (fun((i,c,out):Nat×Nat×List Nat)=>UpX x s i c out) (fun((i,c,out):Nat×Nat×List Nat)=>(limbs x).length-i) (fun((i,c,out):Nat×Nat×List Nat)=> .cond (.h 6 8 (.i (.n (((limbs x).getD i 0)*2^(s%32)) 18446744073709551615)) (.h 6 9 (.i (.n (c+(((limbs x).getD i 0)*2^(s%32))) 18446744073709551615)) (.h 7 3 (.mk (.im (.nat .u32) (.n 4294967295))) (.nil)))) (.h 9 3 (.mk (.im (.nat .u32) (.n 4294967295))) (.pre 1009005 (.frz 38 true [38]) (.h 9 5 (.c AL) (.nil)))))),kcast (by kernel_rfl) (I (?_:s/32=s/32) (I (by simp<;>omega:s/32=(List.replicate (s/32) (0:Nat)).length) (I (UpX.start x s:UpX x s 0 0 (List.replicate (s/32) (0:Nat))) (fun(i:Nat)(c:Nat)(out:List Nat)(hb1:HB [.s 7 (.nat .i64) (.n 32212254721),.s 6 (.nat .u64) (.n 4294967295),.g 5 90005 (.nat .u32) (.n 4294967295) 100931731457] (i,c,out))(hI:UpX x s i c out)=>have hv4:=(show i≤32212254721 from hb1.1);have hv5:=(show c≤4294967295 from hb1.2.1);have hv6:=(show out.length≤100931731457 from hb1.2.2.1);have hIl:=hI.hl;have hIi:=hI.hi;have hIc:=hI.hc;have hg1:=qb x i;have hbd:=q0G hI;Sp (i<(limbs x).length) (fun h2=>I (?_:i<(limbs x).length) (I (Hm _ _ (by omega) (CA hg1 (by omega)):qJ .shl .u64 (((limbs x).getD i 0:Nat):Int) ((s%32:Nat):Int) ((((limbs x).getD i 0)*2^(s%32):Nat):Int)) (I (q1F (CA hg1 (by omega)):((limbs x).getD i 0)*2^(s%32)≤18446744073709551615) (I (Hl _ _ rfl hIc hbd:qJ .or .u64 (c:Int) ((((limbs x).getD i 0)*2^(s%32):Nat):Int) ((c+(((limbs x).getD i 0)*2^(s%32)):Nat):Int)) (I (q1F hbd:c+(((limbs x).getD i 0)*2^(s%32))≤18446744073709551615) (I (?_:out.length=out.length) (I (show(i+1)≤32212254721 by omega:Bnd (.nat .i64) (.n 32212254721) (i+1)) (I (by(try simp only[q19,q1a,q1d])<;>omega:out.length+[(c+(((limbs x).getD i 0)*2^(s%32)))%4294967296].length=(out++[(c+(((limbs x).getD i 0)*2^(s%32)))%4294967296]).length) (I (by(try simp only[q19,q1a,q1d])<;>omega:out.length+[(c+(((limbs x).getD i 0)*2^(s%32)))%4294967296].length≤100931731457) (q0N (hI.step (by omega) rfl:UpX x s (i+1) ((c+(((limbs x).getD i 0)*2^(s%32)))/2^32) (out++[(c+(((limbs x).getD i 0)*2^(s%32)))%4294967296])) (?_:(limbs x).length-(i+1)<(limbs x).length-i))))))))))) (fun h3=>have hF:=hI.fin (by omega);I (?_:out.length=out.length) (I (by(try simp only[q19,q1a,q1d])<;>omega:out.length+[c].length=(out++[c]).length) (I (hF.2: ∀u∈out++[c],u<4294967296) ((hF.1:q9 (out++[c])=x*2^s)))))))))⟩<;>omega)
abbrev q0J:Ctr Tryz.prog:=FI.c q0L
abbrev X9:FI:=⟨91,[.mag,(.nat .i64)],[(.n 1099511627776),(.n 1099511627776)],fun _=>[],fun b z=>(fun(x:Nat)(s:Nat)=> .c (.one (.dt .mag (.n ((b0 b).nb)) (x/2^s)))) z.1 z.2⟩
theorem Xa:X9.OK Tryz.prog:=jp hmix 55 Tryz.func91 rfl rfl (by decide) [] (fun(x:Nat)(s:Nat) b hx hp=>qn ((Bnds.h2 hx).1.magLe (q1y _ _)).mag rfl) (fun(x:Nat)(s:Nat) hx hp=>by
 have hx0:qt x 1099511627776:=hx.1
 have hl0:(limbs x).length≤34359738369:=qg (q1E hx0)
 have hx1:s≤1099511627776:=hx.2
 refine⟨.cond (.nil) ((fun(w:Nat)=> .h 3 3 (.mag w 1099511627776) (.h 4 2 (.mk (.arr (.nat .u32) (.n 4294967295))) (.loop [.s 6 (.nat .i64) (.n 34359738369),.a 19 (.nat .u32) (.n 4294967295)] (fun((i,out):Nat×List Nat)=>DownX w (s%32) i out) (fun((i,out):Nat×List Nat)=>(limbs w).length-i) (fun((i,out):Nat×List Nat)=> .cond (.cond (.h 10 8 (.i (.n (((limbs w).getD i 0)+(((limbs w).getD (i+1) 0)*2^32)) 18446744073709551615)) (.h 11 5 (.i (.n ((((limbs w).getD i 0)+(((limbs w).getD (i+1) 0)*2^32))/2^(s%32)) 18446744073709551615)) (.nil))) (.h 11 5 (.i (.n (((limbs w).getD i 0)/2^(s%32)) 18446744073709551615)) (.nil))) (.pre 12 (.frz 19 true [5]) (.h 12 1 (.c AL) (.nil))))))) (x/4294967296^(s/32))),kcast (by kernel_rfl) (q0N (fun(h1:(limbs x).length≤s/32)=>(QN (by omega):0=x/2^s)) (fun(h2: ¬((limbs x).length≤s/32))=>(fun(w:Nat)(hw:w=x/4294967296^(s/32))=>I (by omega:s/32≤(limbs x).length) (I (by rw[hw];exact DI _ _:(limbs x).drop (s/32)=limbs w) (I (by rw[hw];exact C2 hx0 (q1y _ _):qt w 1099511627776) (have hlw:=(qg (q1E (show qt w 1099511627776 by rw[hw];exact C2 hx0 (q1y _ _))):(limbs w).length≤34359738369);I (by omega:(limbs w).length=(limbs w).length) (I (DownX.start w (s%32):DownX w (s%32) 0 (List.replicate ((limbs w).length) (0:Nat))) (fun(i:Nat)(out:List Nat)(hb3:HB [.s 6 (.nat .i64) (.n 34359738369),.a 19 (.nat .u32) (.n 4294967295)] (i,out))(hI:DownX w (s%32) i out)=>have hv8:=(show i≤34359738369 from hb3.1);have hv9:=(show∀u∈out,u≤4294967295 from hb3.2);have hIl:=hI.hl;have hIi:=hI.hi;have hg1:=qb w i;have hg2:=qb w (i+1);q0N (fun(h4:i<(limbs w).length)=>I (by omega:i<(limbs w).length) (q0N (fun(h5:i+1<(limbs w).length)=>I (by omega:i+1<(limbs w).length) (I (Hl _ 32 rfl hg1 (by omega):qJ .or .u64 (((limbs w).getD i 0:Nat):Int) ((((limbs w).getD (i+1) 0)*2^32:Nat):Int) ((((limbs w).getD i 0)+(((limbs w).getD (i+1) 0)*2^32):Nat):Int)) (I (by omega:((limbs w).getD i 0)+(((limbs w).getD (i+1) 0)*2^32)≤18446744073709551615) (I (L9 _ _ (by simp[IntKind.bits];omega):qJ .shr .u64 ((((limbs w).getD i 0)+(((limbs w).getD (i+1) 0)*2^32):Nat):Int) ((s%32:Nat):Int) (((((limbs w).getD i 0)+(((limbs w).getD (i+1) 0)*2^32))/2^(s%32):Nat):Int)) (I (q1H (q1y _ _) (by omega):(((limbs w).getD i 0)+(((limbs w).getD (i+1) 0)*2^32))/2^(s%32)≤18446744073709551615) (I (by omega:i<(limbs w).length) (I (by omega:i<out.length) (I (show(i+1)≤34359738369 by omega:Bnd (.nat .i64) (.n 34359738369) (i+1)) (q0N (hI.step (by omega) (by omega) (by first|rfl|(have hq1:= @qy (limbs w) (i+1);omega)):DownX w (s%32) (i+1) (out.set i (((((limbs w).getD i 0)+(((limbs w).getD (i+1) 0)*2^32))/2^(s%32))%4294967296))) (by omega:(limbs w).length-(i+1)<(limbs w).length-i)))))))))) (fun(h6: ¬(i+1<(limbs w).length))=>I (L9 _ _ (by simp[IntKind.bits];omega):qJ .shr .u64 (((limbs w).getD i 0:Nat):Int) ((s%32:Nat):Int) ((((limbs w).getD i 0)/2^(s%32):Nat):Int)) (I (q1H (q1y _ _) (by omega):((limbs w).getD i 0)/2^(s%32)≤18446744073709551615) (I (by omega:i<(limbs w).length) (I (by omega:i<out.length) (I (show(i+1)≤34359738369 by omega:Bnd (.nat .i64) (.n 34359738369) (i+1)) (q0N (hI.step (by omega) (by omega) (by first|rfl|(have hq1:= @qy (limbs w) (i+1);omega)):DownX w (s%32) (i+1) (out.set i ((((limbs w).getD i 0)/2^(s%32))%4294967296))) (by omega:(limbs w).length-(i+1)<(limbs w).length-i))))))))) (fun(h7: ¬(i<(limbs w).length))=>I (by omega:(limbs w).length=out.length) (have hF:=hI.fin (by omega);I (hI.hu: ∀u∈out,u<4294967296) ((by rw[hF,hw];exact Lu x s:q9 out=x/2^s)))))))))) (x/4294967296^(s/32)) rfl))⟩)
abbrev X8:Ctr Tryz.prog:=FI.c Xa
end Go.Proofs.YtogldgcllamhcaaGreat.Sx
