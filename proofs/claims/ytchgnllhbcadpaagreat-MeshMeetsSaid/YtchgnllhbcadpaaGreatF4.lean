/-
Own laws and walks for the claim, part 4: WNl, WRl, WRl2, WRl3, WXl, WXl2, WYl, WVl, WDl, WDa1, WNat1, WNat2, WNat3, WNat4, WNat5, WNat6, WRat1, WRat2, WRat3, WRat4, WAdd64, WRat5, WRat6, WRat7, WRat8, WRef1, WRef2, WRef3, WRef4. No condition.
-/
import Derived.Test.YtchgnllhbcadpaaGreatF3
namespace Go.Proofs.YtchgnllhbcadpaaGreat.Sx
open Go Go.Proofs
set_option linter.unusedVariables false
set_option linter.unusedSimpArgs false
set_option maxRecDepth 20000
set_option maxHeartbeats 4000000
theorem AddI.fin'{x y i c:Nat}{out:List Nat}(h:AddI x y i c out)(hi:i=(limbs x).length)(hyx:(limbs y).length≤(limbs x).length):
  valL (out.set (limbs x).length c)=x+y∧(∀u∈out.set (limbs x).length c,u<4294967296):=by
 subst hi
 have e:c%4294967296=c:=Nat.mod_eq_of_lt (by have:=h.hc;omega)
 have:=h.fin hyx
 rwa [e]at this
theorem CF(x:Nat):argsE [.mag] x=argsE [.sl (.nat .u32)] (limbs x):=by
 show[argC .mag x]=[argC (.sl (.nat .u32)) (limbs x)]
 unfold argC
 rw[wE];rfl
theorem qr{l:List Nat}{i:Nat}(h: ¬i<l.length):l.getD i 0=0:=by
 rw[List.getD_eq_getElem?_getD,List.getElem?_eq_none (by omega)];rfl
theorem Fl{l:List Nat}{n i x:Nat}(h:n=l.length):n=(l.set i x).length:=by rw[List.length_set];exact h
theorem MulJ.fin'{x y i j c:Nat}{o0 out:List Nat}(hI:MulI x y i o0)(hi:i<(limbs x).length)(h:MulJ x y i ((limbs x).getD i 0) j c o0 out)(hj:j=(limbs y).length):
  MulI x y (i+1) (out.set (i+(limbs y).length) c):=by
 subst hj
 have:=MulJ.fin hI hi h
 rwa [Nat.mod_eq_of_lt h.hc]at this
theorem MulI.fin'{x y i:Nat}{out:List Nat}(h:MulI x y i out)(hi:i=(limbs x).length):valL out=x*y∧ ∀u∈out,u<4294967296:=by subst hi;exact⟨h.fin,h.hu⟩
theorem SubI.fin'{x y i c:Nat}{out:List Nat}(h:SubI x y i c out)(hi:i=(limbs x).length)(hxy:y≤x):valL out=x-y∧(∀u∈out,u<4294967296):=by subst hi;exact h.fin hxy
theorem v8{a s:Nat}(ha:a<18446744073709551616)(hs:s≤18446744073709551616):qw .sub .u64 (a:Int) (s:Int) ((dif a s:Nat):Int):=TA ha hs
theorem jN(a s:Nat):dif a s≤18446744073709551615:=Nat.le_of_lt_succ vt
theorem AD{a b:Nat}(x s:Nat)(hab:a=x*2^s)(hb:b<2^s)(h:a+b<18446744073709551616):qw .or .u64 (a:Int) (b:Int) ((a+b:Nat):Int):=Lb x s hab hb h
theorem F9{a b:Nat}(x s:Nat)(hab:a=x*2^s)(hb:b<2^s)(h:b+a<18446744073709551616):qw .or .u64 (b:Int) (a:Int) ((b+a:Nat):Int):=QT x s hab hb h
theorem Tf{a b:Nat}(x s:Nat)(hab:a=x*2^s)(hb:b<2^s)(h:b+a<4294967296):qw .or .u32 (b:Int) (a:Int) ((b+a:Nat):Int):=Vq x s hab hb h
theorem Io{a:Nat}(h:a<18446744073709551616):qw .and .u64 (a:Int) 4294967295 ((a%4294967296:Nat):Int):=PE h
theorem Ip{k:IntKind}(x s:Nat)(h:s≤k.bits):qw .shr k (x:Int) (s:Int) ((x/2^s:Nat):Int):=⟨Int.natCast_nonneg _,shrN x s h⟩
theorem Fa(x s:Nat)(h:s≤64)(hx:x*2^s<18446744073709551616):qw .shl .u64 (x:Int) (s:Int) ((x*2^s:Nat):Int):=⟨Int.natCast_nonneg _,Ry x s h hx⟩
theorem Tg(x s:Nat)(h:s≤32):qw .shl .u32 (x:Int) (s:Int) ((x*2^s%4294967296:Nat):Int):=⟨Int.natCast_nonneg _,Rz x s h⟩
theorem Ge(x y:Nat):qw .add .u32 (x:Int) (y:Int) (((x+y)%4294967296:Nat):Int):=by
 show IntKind.u32.wrap ((x:Int)+y)=_
 rw[←Int.natCast_add];exact L4 _
theorem Kq{x u i r:Nat}{out:List Nat}(h:SmallI x u i r out)(hi:i=0):valL out=x/u∧r=x%u∧ ∀v∈out,v<4294967296:=by subst hi;exact⟨h.fin.1,h.fin.2,h.hu⟩
structure CmpI (x y:Nat) (z:Int):Prop where
 h0: -1≤z
 h1:z<(limbs x).length
 hd:(limbs x).drop (z+1).toNat=(limbs y).drop (z+1).toNat
theorem CmpI.start{x y:Nat}(h:(limbs x).length=(limbs y).length):CmpI x y (((limbs x).length:Int) -1):=by
 refine⟨by omega,by omega,?_⟩
 rw[show((((limbs x).length:Int) -1)+1).toNat=(limbs x).length by omega,List.drop_length,h,List.drop_length]
theorem CmpI.at{x y:Nat}{z:Int}(hl:(limbs x).length=(limbs y).length)(h:CmpI x y z)(hz:0≤z):
  ((limbs x).getD z.toNat 0=(limbs y).getD z.toNat 0→CmpI x y (z-1))∧((limbs x).getD z.toNat 0<(limbs y).getD z.toNat 0→cmpN x y= -1)∧((limbs y).getD z.toNat 0<(limbs x).getD z.toNat 0→cmpN x y=1):=by
 have h1:=h.h1
 have hd:=h.hd
 rw[show(z+1).toNat=z.toNat+1 by omega]at hd
 have q:=Iz hl (show z.toNat<(limbs x).length by omega) hd
 have q':=Iz hl.symm (show z.toNat<(limbs y).length by omega) hd.symm
 refine⟨fun e=>⟨by omega,by omega,?_⟩,fun e=>?_,fun e=>?_⟩
 ·rw[show(z-1+1).toNat=z.toNat by omega];exact q.1 e
 ·have:=q.2 e;rw[cmpN,if_pos this]
 ·have:=q'.2 e;rw[cmpN,if_neg (by omega),if_neg (by omega)]
theorem CmpI.fin{x y:Nat}{z:Int}(h:CmpI x y z)(hz:z<0):cmpN x y=0:=by
 have h0:=h.h0
 have hd:=h.hd
 rw[show(z+1).toNat=0 by omega]at hd
 exact Bo.2 (XL hd)
theorem Ix{x y:Nat}(h:(limbs x).length<(limbs y).length):cmpN x y= -1:=by rw[cmpN,if_pos (Fi h)]
theorem Iy{x y:Nat}(h:(limbs y).length<(limbs x).length):cmpN x y=1:=by
 have:=Fi h
 rw[cmpN,if_neg (by omega),if_neg (by omega)]
theorem KD(x y:Nat):(cmpN x y).natAbs≤1:=by have:=q19 x y;omega
theorem Bnd.magLe{b:Bd}{x y:Nat}(h:Bnd .mag b x)(k:y≤x):Bnd .mag b y:=by
 cases b with
 |n b=>exact Aq h k
 |_=>exact h.elim
structure SmallZ (x u:Nat) (z:Int) (r:Nat) (out:List Nat):Prop where
 h0: -1≤z
 h:SmallI x u (z+1).toNat r out
theorem SmallZ.start{x u:Nat}(hu:0<u):SmallZ x u (((limbs x).length:Int) -1) 0 (List.replicate (limbs x).length 0):=by
 refine⟨by omega,?_⟩
 rw[show((((limbs x).length:Int) -1)+1).toNat=(limbs x).length by omega]
 exact SmallI.start hu
theorem SmallZ.b{x u r:Nat}{z:Int}{out:List Nat}(h:SmallZ x u z r out): -1≤z∧z<(limbs x).length∧out.length=(limbs x).length∧r<u:=by
 have h0:=h.h0
 have h1:=h.h.hi
 exact⟨h0,by omega,h.h.hl,h.h.hr⟩
theorem SmallZ.step{x u r d:Nat}{z:Int}{out:List Nat}(h:SmallZ x u z r out)(hz:0≤z)(hd:d=r*2^32+(limbs x).getD z.toNat 0):
  SmallZ x u (z-1) (d%u) (out.set z.toNat (d/u%4294967296)):=by
 refine⟨by omega,?_⟩
 have e1:(z+1).toNat-1=z.toNat:=by omega
 have:=h.h.step (d:=d) (by omega) (by rw[e1];exact hd)
 rw[show(z-1+1).toNat=z.toNat by omega]
 rwa [e1]at this
theorem SmallZ.fin{x u r:Nat}{z:Int}{out:List Nat}(h:SmallZ x u z r out)(hz:z<0):valL out=x/u∧r=x%u∧ ∀v∈out,v<4294967296:=
 Kq h.h (by omega)
structure WordZ (x:Nat) (z:Int) (v:Nat):Prop where
 h0: -1≤z
 h1:z<(limbs x).length
 hv:v=valL ((limbs x).drop (z+1).toNat)
theorem WordZ.start(x:Nat):WordZ x (((limbs x).length:Int) -1) 0:=by
 refine⟨by omega,by omega,?_⟩
 rw[show((((limbs x).length:Int) -1)+1).toNat=(limbs x).length by omega,List.drop_length];rfl
theorem WordZ.lt{x v:Nat}{z:Int}(h:WordZ x z v)(hx:(limbs x).length≤2)(hz:0≤z):v<4294967296:=by
 rw[h.hv];exact Xg hx (by omega)
theorem WordZ.step{x v:Nat}{z:Int}(h:WordZ x z v)(hz:0≤z):WordZ x (z-1) (v*2^32+(limbs x).getD z.toNat 0):=by
 have h1:=h.h1
 refine⟨by omega,by omega,?_⟩
 have:=Pp (x:=x) (i:=z.toNat) (by omega)
 rw[show z.toNat+1=(z+1).toNat by omega,←h.hv]at this
 rw[show(z-1+1).toNat=z.toNat by omega];exact this
theorem WordZ.fin{x v:Nat}{z:Int}(h:WordZ x z v)(hz:z<0):v=x:=by
 have h0:=h.h0
 have:=h.hv
 rwa [show(z+1).toNat=0 by omega,List.drop_zero,qm]at this
theorem RaiseI.fin'{x s i c:Nat}{out:List Nat}(h:RaiseI x s i c out)(hi:i=(limbs x).length)(hs:s≤32):
  out.set (limbs x).length c=padL (x*2^s) ((limbs x).length+1):=by
 subst hi
 have hc:c<4294967296:=Nat.lt_of_lt_of_le h.hc (Nat.pow_le_pow_right (show 0<2 by omega) hs)
 have:=h.fin hs
 rwa [Nat.mod_eq_of_lt hc]at this
theorem Jm(v n:Nat): ∀u∈padL v n,Bnd (.nat .u32) (.n 4294967295) u:=fun u hu=>Nat.le_of_lt_succ (E3 n v u hu)
theorem L3{b:Bd}{x:Nat}(h:Bnd .mag b x):(limbs x).length≤b.nb/32+1:=qg (Nat.le_of_lt h.mag)
theorem Bnd.natLe{k:IntKind}{b:Bd}{x y:Nat}(h:Bnd (.nat k) b x)(hy:y≤x):Bnd (.nat k) b y:=by
 cases b with
 |n b=>exact Nat.le_trans hy h
 |_=>exact h.elim
theorem magE(x:Nat)(b c:Bd):(WV.c (.one (.dt (.sl (.nat .u32)) b (limbs x)))).exp=(WV.c (.one (.dt .mag c x))).exp:=by
 show AV.c (.one ((qn (.sl (.nat .u32)) (limbs x)).headD _))=AV.c (.one ((qn .mag x).headD _))
 rw[wE]
theorem GA{ls:List Nat}(h: ∀u∈ls,u<4294967296):(limbs (valL ls)).length≤ls.length:=
 AP (k:=ls.length) (jk ls h)
theorem Fb{x m:Nat}(h:x<2^m):bl x≤m:=by
 rcases Nat.eq_zero_or_pos x with e|e
 ·subst e;rw[DA];exact Nat.zero_le _
 ·have h2:=Dz (n:=x) (by omega)
  have h3:2^(bl x-1)<2^m:=Nat.lt_of_le_of_lt h2 h
  have:=(Nat.pow_lt_pow_iff_right (show 1<2 by omega)).1 h3
  omega
theorem Iq{x b:Nat}(h:x≤b):bl x≤Nat.log2 b+1:=Fb (Nat.lt_of_le_of_lt h Nat.lt_log2_self)
theorem N6{b:Bd}{k:IntKind}{x:Nat}(h:Bnd .mag b x):Bnd (.nat k) b (bl x):=by
 cases b with
 |n b=>exact Fb h
 |_=>exact h.elim
theorem Fv(x:Nat):IntKind.u8.wrap (x:Int)=((x%256:Nat):Int):=by
 simp only[IntKind.wrap,IntKind.bits,IntKind.signed];simp
theorem In{a b:Nat}(h:a+b≤18446744073709551615):qw .add .u64 (a:Int) (b:Int) ((a+b:Nat):Int):=by
 show IntKind.u64.wrap ((a:Int)+b)=_
 rw[←Int.natCast_add];exact zk (by omega)
structure DivZ (x y s:Nat) (z:Int) (ls ql:List Nat):Prop where
 h0: -1≤z
 h:DivI x y s (z+1).toNat ls ql
theorem DivZ.b{x y s:Nat}{z:Int}{ls ql:List Nat}(h:DivZ x y s z ls ql): -1≤z∧(z+1).toNat≤(limbs x).length+1-(limbs y).length∧ls.length=(limbs x).length+1∧ql.length=(limbs x).length+1-(limbs y).length:=
 ⟨h.h0,h.h.hi,h.h.hl,h.h.hql⟩
theorem DivZ.at{x y s j:Nat}{z:Int}{ls ql:List Nat}(h:DivZ x y s z ls ql)(hz:0≤z)(hj:j=z.toNat):DivI x y s (j+1) ls ql:=by
 have:=h.h
 rwa [show(z+1).toNat=j+1 by omega]at this
theorem DivZ.of{x y s j:Nat}{z:Int}{ls ql:List Nat}(hz:0≤z)(hj:j=z.toNat)(h:DivI x y s j ls ql):DivZ x y s (z-1) ls ql:=
 ⟨by omega,by rwa [show(z-1+1).toNat=j by omega]⟩
theorem DivZ.start{x y s n:Nat}(c:DivC x y s)(hn:n=(limbs x).length+1-(limbs y).length):DivZ x y s ((n:Int) -1) (padL (x*2^s) ((limbs x).length+1)) (List.replicate n 0):=by
 have:=c.hyx
 subst hn
 refine⟨by omega,?_⟩
 rw[show((((limbs x).length+1-(limbs y).length:Nat):Int) -1+1).toNat=(limbs x).length+1-(limbs y).length by omega]
 exact DivI.start c
theorem DivZ.fin{x y s:Nat}{z:Int}{ls ql:List Nat}(h:DivZ x y s z ls ql)(hz:z<0):valL ql=x/y∧valL ls=x%y*2^s∧(∀u∈ql,u<4294967296)∧ ∀u∈ls,u<4294967296:=by
 have h0:=h.h0
 have:=h.h
 rw[show(z+1).toNat=0 by omega]at this
 exact⟨this.fin.1,this.fin.2,this.hqu,this.hu⟩
theorem AbI.top'{y s j c:Nat}{l0 ls:List Nat}{n:Nat}(h:AbI y s j l0 n c ls)(hn:(limbs (y*2^s)).length=n)(hj:j+n<l0.length):
  ∃c2,valL ((ls.set (j+n) ((ls.getD (j+n) 0+c)%4294967296)).take (j+n+1))+4294967296^(j+n+1)*c2=valL (l0.take (j+n+1))+4294967296^j*(y*2^s)∧
  (ls.set (j+n) ((ls.getD (j+n) 0+c)%4294967296)).drop (j+n+1)=l0.drop (j+n+1)∧(ls.set (j+n) ((ls.getD (j+n) 0+c)%4294967296)).length=l0.length∧
  ∀u∈ls.set (j+n) ((ls.getD (j+n) 0+c)%4294967296),u<4294967296:=by
 have:=h.top hn hj
 rwa [Nat.mod_eq_of_lt (show c<4294967296 by have:=h.hc;omega)]at this
theorem DownI.fin'{W s N i n:Nat}{ls:List Nat}(h:DownI W s N i ls)(hi: ¬i<(limbs W).length)(hn:n=(limbs W).length):valL (ls.take n)=W/2^s∧ ∀u∈ls.take n,u<4294967296:=by
 have h1:=h.hi
 have e:i=(limbs W).length:=by omega
 subst hn e
 exact⟨h.fin,fun u hu=>h.hu u (List.mem_of_mem_take hu)⟩
theorem NR{y s m:Nat}(hy:lt2 y m)(hs:s≤32):lt2 (y*2^s) (m+32):=by
 unfold lt2 at*
 rw[Nat.pow_add]
 exact Nat.lt_of_lt_of_le (Nat.mul_lt_mul_of_pos_right hy (Nat.pow_pos (by omega))) (Nat.mul_le_mul_left _ (Nat.pow_le_pow_right (by omega) hs))
theorem Hx{a s c:Nat}(ha:a<4294967296)(hs:s≤32)(hc:c<2^s):c+a*2^s<18446744073709551616:=by
 have h1:(2:Nat)^s≤4294967296:=Nat.pow_le_pow_right (show 0<2 by omega) hs
 have h2:(a+1)*2^s≤4294967296*4294967296:=Nat.mul_le_mul ha h1
 rw[Nat.add_mul]at h2
 omega
theorem KJ{s i:Nat}{l:List Nat}(hs:s≤32)(hu: ∀k,l.getD k 0<4294967296)(hi:i<l.length):
  qw .or .u32 (((l.set i (l.getD i 0/2^s)).getD i 0:Nat):Int) (((l.set i (l.getD i 0/2^s)).getD (i+1) 0*2^(32-s)%4294967296:Nat):Int)
   (((l.set i (l.getD i 0/2^s)).getD i 0+(l.set i (l.getD i 0/2^s)).getD (i+1) 0*2^(32-s)%4294967296:Nat):Int)∧
  (l.set i (l.getD i 0/2^s)).getD i 0+(l.set i (l.getD i 0/2^s)).getD (i+1) 0*2^(32-s)%4294967296≤4294967295:=by
 have h:=TH hs (hu i) (hu (i+1))
 rw[CA hi,B9 (by omega)]
 exact⟨Tf (l.getD (i+1) 0%2^s) (32-s) h.2.2 h.1 h.2.1,by omega⟩
theorem vI(a b:Nat):Nat.gcd b (a%b)=Nat.gcd a b:=by
 rw[Nat.gcd_comm b,←Nat.gcd_rec,Nat.gcd_comm]
def subC(x y:Nat):Int:=if x<y then 7 else 0
theorem P3(x y:Nat):(subC x y).natAbs≤7:=by unfold subC;split<;>decide
theorem FX{x y:Nat}:subC x y=0↔y≤x:=by unfold subC;split<;>omega
def sgI(neg:Bool)(n:Nat):Int:=if neg then-(n:Int)else n
def sgQ(neg:Bool)(n d:Nat):Rat:=mkRat (sgI neg n) d
theorem Lp(neg:Bool)(n:Nat):(sgI neg n).natAbs=n:=by unfold sgI;split<;>simp
theorem Cq(neg:Bool)(d:Nat):sgQ neg 0 d=0:=by unfold sgQ sgI;cases neg<;>simp
theorem BJ(neg:Bool)(n:Nat):sgQ neg n 0=0:=by unfold sgQ;simp[Rat.mkRat_zero]
theorem qG{neg:Bool}{n d:Nat}(hd:0<d):(sgQ neg n d).num=sgI neg n/((Nat.gcd n d:Nat):Int)∧(sgQ neg n d).den=d/Nat.gcd n d:=by
 have h:sgQ neg n d=Rat.normalize (sgI neg n) d (by omega):=(Rat.normalize_eq_mkRat (by omega)).symm
 have e:=Rat.normalize_eq (num:=sgI neg n) (den:=d) (by omega)
 rw[h,e]
 refine⟨?_,?_⟩
 ·show sgI neg n/(((sgI neg n).natAbs.gcd d:Nat):Int)=_
  rw[Lp]
 ·show d/(sgI neg n).natAbs.gcd d=_
  rw[Lp]
theorem qO{neg:Bool}{n d:Nat}(hd:0<d):(sgQ neg n d).num.natAbs=n/Nat.gcd n d:=by
 rw[(qG hd).1]
 unfold sgI
 have hg:(Nat.gcd n d)∣n:=Nat.gcd_dvd_left n d
 obtain⟨k,hk⟩:=hg
 have hg0:0<Nat.gcd n d:=Nat.gcd_pos_of_pos_right _ hd
 generalize Nat.gcd n d=g at*
 subst hk
 rw[Nat.mul_div_cancel_left _ hg0]
 split
 ·rw[Int.natCast_mul,←Int.mul_neg,Int.mul_ediv_cancel_left _ (by omega)];simp
 ·rw[Int.natCast_mul,Int.mul_ediv_cancel_left _ (by omega)];simp
theorem j4{neg:Bool}{n d:Nat}(hn:0<n)(hd:0<d):decide ((sgQ neg n d).num<0)=neg:=by
 rw[(qG hd).1]
 have hg0:0<Nat.gcd n d:=Nat.gcd_pos_of_pos_right _ hd
 obtain⟨k,hk⟩:=Nat.gcd_dvd_left n d
 generalize Nat.gcd n d=g at*
 subst hk
 have hk0:0<k:=Nat.pos_of_ne_zero (fun e=>by subst e;simp at hn)
 unfold sgI
 cases neg
 ·simp only[Bool.false_eq_true,if_false,Int.natCast_mul,Int.mul_ediv_cancel_left _ (show(g:Int)≠0 by omega)]
  simp
 ·simp only[if_true]
  rw[Int.natCast_mul,←Int.mul_neg,Int.mul_ediv_cancel_left _ (by omega)]
  simp;omega
theorem Wv(a b:Bool)(n m:Nat):sgI a n*sgI b m=sgI (decide (a≠b)) (n*m):=by
 cases a<;>cases b<;>simp[sgI,Int.natCast_mul,Int.neg_mul,Int.mul_neg]
theorem Jv(z:Int):sgI (decide (z<0)) z.natAbs=z:=by
 unfold sgI;split<;>simp_all<;>omega
theorem zM(x:Rat):sgQ (decide (x.num<0)) x.num.natAbs x.den=x:=by
 unfold sgQ;rw[Jv];exact Rat.mkRat_self x
theorem Lr(a b:Bool)(n m d e:Nat):sgQ a n d*sgQ b m e=sgQ (decide (a≠b)) (n*m) (d*e):=by
 unfold sgQ;rw[Rat.mkRat_mul_mkRat,Wv]
theorem E7(x y:Rat):sgQ (decide (decide (x.num<0)≠decide (y.num<0))) (x.num.natAbs*y.num.natAbs) (x.den*y.den)=x*y:=by
 rw[←Lr,zM,zM]
theorem Ww(a b:Bool)(n m:Nat){d e:Nat}(hd:0<d)(he:0<e):sgQ a n d+sgQ b m e=mkRat (sgI a (n*e)+sgI b (m*d)) (d*e):=by
 unfold sgQ
 rw[Rat.mkRat_add_mkRat _ _ (by omega) (by omega)]
 congr 1
 unfold sgI
 cases a<;>cases b<;>simp[Int.natCast_mul,Int.neg_mul]
theorem Rw(a:Bool)(n m:Nat):sgI a n+sgI a m=sgI a (n+m):=by cases a<;>simp[sgI]<;>omega
theorem q0i{a b:Bool}(h:a≠b){n m:Nat}(hm:m≤n):sgI a n+sgI b m=sgI a (n-m):=by
 cases a<;>cases b<;>simp_all [sgI]<;>omega
theorem q0j{a b:Bool}(h:a≠b){n m:Nat}(hm:n≤m):sgI a n+sgI b m=sgI b (m-n):=by
 cases a<;>cases b<;>simp_all [sgI]<;>omega
theorem qt{neg:Bool}{n d p:Nat}(hn:lt2 n p)(hd:le2 d p)(h0:0<d):Bnd .rat (.n p) (sgQ neg n d):=by
 show lt2 _ _∧le2 _ _
 rw[qO h0,(qG h0).2]
 exact⟨Aq hn (Nat.div_le_self _ _),Nat.le_trans (Nat.div_le_self _ _) hd⟩
theorem zo{x b:Nat}(h:x≤b):lt2 x (Nat.log2 b+1):=Nat.lt_of_le_of_lt h Nat.lt_log2_self
theorem jb{b:Bd}{x:Rat}(h:Bnd .rat b x):(WV.c (.agg [.dt .rat b x])).ok:=qP h
def nlw(v:Nat):Nat:=if v/2^32=0 then 1 else 2
def putW(l:List Nat)(lo v:Nat):List Nat:=if v/2^32=0 then l.set (lo+0) (v%4294967296)else(l.set (lo+0) (v%4294967296)).set (lo+1) (v/2^32)
theorem Jb(v:Nat):1≤nlw v∧nlw v≤2:=by unfold nlw;split<;>omega
theorem Jp(l:List Nat)(lo v:Nat):(putW l lo v).length=l.length:=by unfold putW;split<;>simp
theorem R0{l:List Nat}{lo v:Nat}(hv:v≤18446744073709551615)(h: ∀u∈l,Bnd (.nat .u32) (.n 4294967295) u): ∀u∈putW l lo v,Bnd (.nat .u32) (.n 4294967295) u:=by
 have h1:=jj (n:=lo+0) (GW h) (Nat.mod_lt v (show 0<4294967296 by omega))
 unfold putW
 split
 ·exact fun u hu=>Nat.le_of_lt_succ (h1 u hu)
 ·exact fun u hu=>Nat.le_of_lt_succ (jj h1 (show v/2^32<4294967296 by omega) u hu)
theorem Gu{v:Nat}(h0:0<v)(hv:v≤18446744073709551615):limbs v=if v/2^32=0 then[v%4294967296]else[v%4294967296,v/2^32]:=by
 rw[jF (by omega)]
 split
 ·rename_i h
  rw[show v/4294967296=0 by omega];rw[zn]
 ·rename_i h
  rw[jF (n:=v/4294967296) (by omega)]
  rw[show v/4294967296/4294967296=0 by omega,zn,Nat.mod_eq_of_lt (show v/4294967296<4294967296 by omega)]
theorem Lt{n:Nat}(h0:0<n)(hn:n≤18446744073709551615):(putW (List.replicate 4 (0:Nat)) 0 n).take (nlw n)=limbs n:=by
 rw[Gu h0 hn];unfold putW nlw
 split<;>simp[List.replicate]
theorem Jz{n d:Nat}(h0:0<n)(hn:n≤18446744073709551615):(putW (putW (List.replicate 4 (0:Nat)) 0 n) (nlw n) d).take (nlw n)=limbs n:=by
 rw[Gu h0 hn];unfold putW nlw
 split<;>split<;>simp[List.replicate]
theorem Wy{n d:Nat}(h0:0<d)(hd:d≤18446744073709551615):((putW (putW (List.replicate 4 (0:Nat)) 0 n) (nlw n) d).drop (nlw n)).take (nlw n+nlw d-nlw n)=limbs d:=by
 rw[Gu h0 hd,Nat.add_sub_cancel_left];unfold putW nlw
 split<;>split<;>simp[List.replicate]
theorem Am{d:Nat}(h0:d≠0)(h:(denL d).length=0):d=1:=by
 unfold denL at h
 split at h
 ·assumption
 ·exact absurd (nl0.1 h) h0
theorem BZ{d:Nat}(h: ¬(denL d).length=0):denL d=limbs d:=by
 unfold denL at h⊢
 split
 ·rename_i e;rw[if_pos e]at h;exact absurd rfl h
 ·rfl
theorem U1{a b p q:Nat}(ha:a≤p)(hb:b≤q):Nat.gcd a b≤max p q:=by
 rcases Nat.eq_zero_or_pos a with e|e
 ·subst e;rw[Nat.gcd_zero_left];omega
 ·have:=Nat.gcd_le_left b e;omega
theorem v5{E:Nat}(h1:(limbs E).length=1)(h2:(limbs E).getD 0 0=1):E=1:=by
 have:=vf (x:=E) (by omega)
 rw[h1]at this
 simp only[Nat.sub_self,List.take_zero,valL,h2]at this
 omega
theorem jI{D E:Nat}(h:E=D)(hn: ¬((limbs E).length=1∧(limbs E).getD 0 0=1)):limbs E=denL D:=by
 subst h
 unfold denL
 rw[if_neg]
 intro e;subst e;exact hn ⟨Z9,by rw[AL];rfl⟩
theorem M8{E:Nat}(h1:(limbs E).length=1):(limbs E).getD 0 0=E:=by
 have:=vf (x:=E) (by omega)
 rw[h1]at this
 simp only[Nat.sub_self,List.take_zero,valL,Nat.pow_zero,Nat.one_mul,Nat.zero_add]at this
 exact this.symm
def bigQ(x:Rat):Prop:=1<(limbs x.num.natAbs).length∨1<(denL x.den).length
instance(x:Rat):Decidable (bigQ x):=by unfold bigQ;infer_instance
def pn(x:Rat):Nat:=if bigQ x then 0 else x.num.natAbs
def pd(x:Rat):Nat:=if bigQ x then 0 else x.den
def pb(x:Rat):Bool:=decide (¬bigQ x)
theorem Oi{x:Nat}(h:(limbs x).length≤1):x<4294967296:=by
 have h1:=jk (limbs x) (qF x)
 rw[qm]at h1
 exact Nat.lt_of_lt_of_le h1 (Nat.pow_le_pow_right (n:=4294967296) (by omega) h)
theorem FH(x:Rat):pn x≤4294967295:=by
 unfold pn;split
 ·omega
 ·rename_i h;unfold bigQ at h;exact Nat.le_of_lt_succ (Oi (by omega))
theorem PQ{d:Nat}(h:(denL d).length≤1):d<4294967296:=by
 unfold denL at h;split at h
 ·omega
 ·exact Oi h
theorem FG(x:Rat):pd x≤4294967295:=by
 unfold pd;split
 ·omega
 ·rename_i h;unfold bigQ at h;exact Nat.le_of_lt_succ (PQ (by omega))
theorem E2{x:Rat}(h:bigQ x):0=pn x∧0=pd x∧false=pb x:=by simp[pn,pd,pb,h]
theorem p_sm{x:Rat}(h: ¬bigQ x):x.num.natAbs=pn x∧x.den=pd x∧pb x=true:=by simp[pn,pd,pb,h]
theorem AT{x:Rat}(h:pb x=true):pn x=x.num.natAbs∧pd x=x.den∧0<pd x:=by
 have h: ¬bigQ x:=by simpa[pb]using h
 have:=p_sm h
 have:=x.den_nz
 omega
theorem Nh{d:Nat}(h:(denL d).length=1):(denL d).getD 0 0=d:=by
 have h': ¬(denL d).length=0:=by omega
 rw[BZ h']at h⊢
 exact M8 h
theorem EQ{neg:Bool}{n d p:Nat}(hn:lt2 n p)(hd:lt2 d p):Bnd .rat (.n p) (sgQ neg n d):=by
 rcases Nat.eq_zero_or_pos d with e|e
 ·subst e;rw[BJ]
  exact⟨Nat.pow_pos (by decide),Nat.pow_pos (by decide)⟩
 ·exact qt hn (qx hd) e
theorem N7{g:Nat}(h0:0<g)(h:bl g≤1):g=1:=by
 have h1:=Fc g
 have h2:2^bl g≤2^1:=Nat.pow_le_pow_right (by decide) h
 omega
theorem Be{x y:Rat}{b c:Bd}(hx:Bnd .rat b x)(hy:Bnd .rat c y):Bnd .rat (.n (b.nb+c.nb)) (x*y):=by
 rw[←E7]
 exact qt (DR hx.rat.1 hy.rat.1) (KY hx.rat.2 hy.rat.2) (Nat.mul_pos x.den_pos y.den_pos)
theorem zL{x:Rat}(h:x.num.natAbs=0):x=0:=by
 have:x.num=0:=Int.natAbs_eq_zero.1 h
 exact Rat.num_eq_zero.1 this
theorem Lq(v:Int):sgQ (decide (v<0)) v.natAbs 1=(v:Rat):=by
 unfold sgQ;rw[Jv];exact(Rat.mkRat_one v)
theorem A5{v:Int}{b:Nat}(h:v.natAbs≤b):Bnd .rat (.n (Nat.log2 b+1)) (v:Rat):=by
 rw[←Lq];exact qt (zo h) (Nat.one_le_two_pow) (by decide)
def sgnQ(x:Rat):Int:=if x.num.natAbs=0 then 0 else if x.num<0 then-1 else 1
theorem Jx(x:Rat):(sgnQ x).natAbs≤1:=by
 unfold sgnQ;split
 ·decide
 ·split<;>decide
theorem Gl{l m:List Nat}{i:Nat}(hl:l.length=m.length)(h:l.take i=m.take i)(hi:i<l.length):(l.getD i 0=m.getD i 0→l.take (i+1)=m.take (i+1))∧(l.getD i 0≠m.getD i 0→l≠m):=by
 refine⟨fun e=>?_,fun e e2=>e (by rw[e2])⟩
 rw[List.take_succ_eq_append_getElem hi,List.take_succ_eq_append_getElem (by omega),h]
 simp only[List.getD_eq_getElem?_getD,List.getElem?_eq_getElem hi,List.getElem?_eq_getElem (show i<m.length by omega),Option.getD_some]at e
 rw[e]
theorem Da {x y : Rat} (h : y.num.natAbs ≠ 0) : sgQ (decide (decide (x.num < 0) ≠ decide (y.num < 0))) (x.num.natAbs * y.den) (x.den * y.num.natAbs) = x / y := by
 have e : y⁻¹ = sgQ (decide (y.num < 0)) y.den y.num.natAbs := by
  conv => lhs; rw [← Rat.num_divInt_den y]
  rw [Rat.inv_divInt]
  unfold sgQ sgI
  by_cases hn : y.num < 0
  ·simp only [hn, decide_true, if_true]
   rw [← Rat.divInt_ofNat, ← Rat.neg_divInt_neg]
   congr 1; omega
  ·simp only [hn, decide_false, Bool.false_eq_true, if_false]
   rw [← Rat.divInt_ofNat]
   congr 1; omega
 rw [Rat.div_def, e]
 conv => rhs; rw [← zM x]
 rw [Lr]
def yQ(s:Bool)(y:Rat):Rat:=sgQ s y.num.natAbs y.den
theorem BO(y:Rat):yQ (decide (y.num<0)) y=y:=zM y
theorem Py(y:Rat):yQ (!decide (y.num<0)) y= -y:=by
 have h: -y=mkRat (-y.num) y.den:=by rw[←Rat.neg_mkRat,Rat.mkRat_self]
 by_cases h0:y.num.natAbs=0
 ·have:=zL h0
  subst this;rfl
 ·rw[h];unfold yQ sgQ sgI
  congr 1
  by_cases hn:y.num<0
  ·simp[hn];omega
  ·simp[hn];omega
theorem Ih(s:Bool)(x y:Rat):x+yQ s y=mkRat (sgI (decide (x.num<0)) (x.num.natAbs*y.den)+sgI s (y.num.natAbs*x.den)) (x.den*y.den):=by
 conv=>lhs;rw[←zM x]
 exact Ww _ _ _ _ x.den_pos y.den_pos
theorem Ai{s:Bool}{x y:Rat}(h:decide (x.num<0)=s):sgQ s (x.num.natAbs*y.den+y.num.natAbs*x.den) (x.den*y.den)=x+yQ s y:=by
 rw[Ih,h,Rw];rfl
theorem Ag{s:Bool}{x y:Rat}(h:decide (x.num<0)≠s)(hm:y.num.natAbs*x.den≤x.num.natAbs*y.den):sgQ (decide (x.num<0)) (x.num.natAbs*y.den-y.num.natAbs*x.den) (x.den*y.den)=x+yQ s y:=by
 rw[Ih,q0i h hm];rfl
theorem Ah{s:Bool}{x y:Rat}(h:decide (x.num<0)≠s)(hm:x.num.natAbs*y.den≤y.num.natAbs*x.den):sgQ s (y.num.natAbs*x.den-x.num.natAbs*y.den) (x.den*y.den)=x+yQ s y:=by
 rw[Ih,q0j h hm];rfl
theorem Dn(s:Bool)(n d e:Nat)(he:0<e):sgQ s (n*e) (d*e)=sgQ s n d:=by
 rcases Nat.eq_zero_or_pos d with h|h
 ·subst h;rw[Nat.zero_mul,BJ,BJ]
 ·unfold sgQ
  rw[Rat.mkRat_eq_iff (Nat.ne_of_gt (Nat.mul_pos h he)) (Nat.ne_of_gt h)]
  have e1:sgI s (n*e)=sgI s n*(e:Int):=by unfold sgI;cases s<;>simp[Int.natCast_mul,Int.neg_mul]
  rw[e1,Int.natCast_mul,Int.mul_assoc,Int.mul_comm (e:Int)]
theorem Tb{s:Bool}{x y:Rat}(hd:x.den=y.den)(h:decide (x.num<0)=s):sgQ s (x.num.natAbs+y.num.natAbs) x.den=x+yQ s y:=by
 rw[←Ai h,←hd,←Nat.add_mul,Dn _ _ _ _ x.den_pos]
theorem T9{s:Bool}{x y:Rat}(hd:x.den=y.den)(h:decide (x.num<0)≠s)(hm:y.num.natAbs≤x.num.natAbs):sgQ (decide (x.num<0)) (x.num.natAbs-y.num.natAbs) x.den=x+yQ s y:=by
 rw[←Ag h (by rw[hd];exact Nat.mul_le_mul_right _ hm),←hd,←Nat.sub_mul,Dn _ _ _ _ x.den_pos]
theorem Ta{s:Bool}{x y:Rat}(hd:x.den=y.den)(h:decide (x.num<0)≠s)(hm:x.num.natAbs≤y.num.natAbs):sgQ s (y.num.natAbs-x.num.natAbs) x.den=x+yQ s y:=by
 rw[←Ah h (by rw[hd];exact Nat.mul_le_mul_right _ hm),←hd,←Nat.sub_mul,Dn _ _ _ _ x.den_pos]
theorem vG{d e:Nat}(hd:d≠0)(he:e≠0)(h:denL d=denL e):d=e:=by
 by_cases h1:d=1
 ·subst h1
  have:(denL e).length=0:=by rw[←h];rfl
  exact(Am he this).symm
 ·by_cases h2:e=1
  ·subst h2
   exact Am hd (by rw[h];rfl)
  ·unfold denL at h
   rw[if_neg h1,if_neg h2]at h
   have:=congrArg valL h
   rwa [qm,qm]at this
theorem Ce{x y a b:Nat}(h:lt2 x a)(k:le2 y b):lt2 (x*y) (a+b):=by
 unfold lt2 le2 at*
 rw[Nat.pow_add]
 exact Nat.lt_of_le_of_lt (Nat.mul_le_mul_left _ k) (Nat.mul_lt_mul_of_pos_right h (Nat.pow_pos (by decide)))
theorem Gb{s:Bool}{x y:Rat}{b c:Bd}(hx:Bnd .rat b x)(hy:Bnd .rat c y):Bnd .rat (.n (b.nb+c.nb+1)) (x+yQ s y):=by
 have h1:=Ce hx.rat.1 hy.rat.2
 have h2:=Ce hy.rat.1 hx.rat.2
 have h3:=KY hx.rat.2 hy.rat.2
 have h4:lt2 (x.num.natAbs*y.den+y.num.natAbs*x.den) (b.nb+c.nb+1):=by
  rw[Nat.add_comm c.nb]at h2
  have:=DQ h1 h2
  rwa [Nat.max_self]at this
 have hp:=Nat.mul_pos x.den_pos y.den_pos
 have h5:le2 (x.den*y.den) (b.nb+c.nb+1):=wn (Nat.le_succ _) h3
 by_cases e:decide (x.num<0)=s
 ·rw[←Ai e];exact qt h4 h5 hp
 ·rcases Nat.le_total (y.num.natAbs*x.den) (x.num.natAbs*y.den)with hm|hm
  ·rw[←Ag e hm];exact qt (Aq h4 (by omega)) h5 hp
  ·rw[←Ah e hm];exact qt (Aq h4 (by omega)) h5 hp
def cy(a b:Nat):Nat:=(a+b)/18446744073709551616
theorem q1h{a b:Nat}(h:a≤4294967295*4294967295)(k:b≤4294967295*4294967295):cy a b≤1:=by unfold cy;omega
theorem XQ{a b:Nat}(h:cy a b=0):(a+b)%18446744073709551616=a+b:=by unfold cy at h;omega
theorem Ep{x y:Rat}{b c:Bd}(hx:Bnd .rat b x)(hy:Bnd .rat c y):Bnd .rat (.n (b.nb+c.nb+1)) (x+y):=by
 have:=Gb (s:=decide (y.num<0)) hx hy
 rwa [BO]at this
theorem ER{x y:Rat}{b c:Bd}(hx:Bnd .rat b x)(hy:Bnd .rat c y):Bnd .rat (.n (b.nb+c.nb+1)) (x-y):=by
 have:=Gb (s:=!decide (y.num<0)) hx hy
 rwa [Py,←Rat.sub_eq_add_neg]at this
theorem GJ{x y:Rat}{b c:Bd}(hx:Bnd .rat b x)(hy:Bnd .rat c y):Bnd .rat (.n (b.nb+c.nb)) (x/y):=by
 by_cases h:y.num.natAbs=0
 ·rw[zL h,Rat.div_def,Rat.inv_zero,Rat.mul_zero]
  exact⟨Nat.pow_pos (by decide),Nat.pow_pos (by decide)⟩
 ·rw[←Da h]
  have h2:=Ce hy.rat.1 hx.rat.2
  rw[Nat.add_comm,Nat.mul_comm]at h2
  exact qt (Ce hx.rat.1 hy.rat.2) (qx h2) (Nat.mul_pos x.den_pos (by omega))
theorem SO{x y:Rat}(h:y.num.natAbs=0):0=x/y:=by rw[zL h,Rat.div_def,Rat.inv_zero,Rat.mul_zero]
def quoC(y:Rat):Int:=if y.num.natAbs=0 then 3 else 0
theorem OF(y:Rat):(quoC y).natAbs≤3:=by unfold quoC;split<;>decide
theorem Jw{y:Rat}:sgnQ y=0↔y.num.natAbs=0:=by
 unfold sgnQ;split
 ·simp_all
 ·split<;>simp_all
def cmpQ(x y:Rat):Int:=if x<y then-1 else if x=y then 0 else 1
theorem wg(x y:Rat):(cmpQ x y).natAbs≤1:=by
 unfold cmpQ;split
 ·decide
 ·split<;>decide
def cmpL(x y:Rat):Int:=cmpN (x.num.natAbs*y.den) (y.num.natAbs*x.den)
theorem FK{x y:Rat}:x=y↔x.num*y.den=y.num*x.den:=by
 constructor
 ·intro h;subst h;rfl
 ·intro h
  rw[←Rat.mkRat_self x,←Rat.mkRat_self y]
  exact(Rat.mkRat_eq_iff x.den_nz y.den_nz).2 h
theorem Gj(x y:Rat):cmpQ x y=if x.num*y.den<y.num*x.den then-1 else if x.num*y.den=y.num*x.den then 0 else 1:=by
 unfold cmpQ
 by_cases h:x<y
 ·rw[if_pos h,if_pos ((Rat.lt_iff x y).1 h)]
 ·rw[if_neg h,if_neg (mt (Rat.lt_iff x y).2 h)]
  by_cases e:x=y
  ·rw[if_pos e,if_pos (FK.1 e)]
  ·rw[if_neg e,if_neg (mt FK.2 e)]
theorem OZ(z:Int){d:Nat}(hd:0<d):(z<0→z*(d:Int)<0)∧(z=0→z*(d:Int)=0)∧(0<z→0<z*(d:Int)):=
 ⟨fun h=>Int.mul_neg_of_neg_of_pos h (by omega),fun h=>by rw[h,Int.zero_mul],fun h=>Int.mul_pos h (by omega)⟩
theorem zd(x:Rat):(x.num<0∧sgnQ x= -1)∨(x.num=0∧sgnQ x=0)∨(0<x.num∧sgnQ x=1):=by
 unfold sgnQ
 by_cases h:x.num.natAbs=0
 ·rw[if_pos h];omega
 ·rw[if_neg h]
  by_cases h2:x.num<0
  ·rw[if_pos h2];omega
  ·rw[if_neg h2];omega
theorem DC{x y:Rat}(h:sgnQ x≠sgnQ y):(sgnQ x<sgnQ y→cmpQ x y= -1)∧(¬sgnQ x<sgnQ y→cmpQ x y=1):=by
 have h1:=OZ x.num y.den_pos
 have h2:=OZ y.num x.den_pos
 have c1:=zd x
 have c2:=zd y
 rw[Gj]
 generalize x.num*(y.den:Int)=A at*
 generalize y.num*(x.den:Int)=B at*
 refine⟨fun hl=>?_,fun hl=>?_⟩
 ·rw[if_pos (by omega)]
 ·rw[if_neg (by omega),if_neg (by omega)]
theorem KF{x y:Rat}(hs:sgnQ x=sgnQ y)(h: ¬x.num<0):cmpQ x y=cmpL x y:=by
 have c1:=zd x
 have c2:=zd y
 have e1:x.num*(y.den:Int)=((x.num.natAbs*y.den:Nat):Int):=by rw[Int.natCast_mul,Int.natAbs_of_nonneg (by omega)]
 have e2:y.num*(x.den:Int)=((y.num.natAbs*x.den:Nat):Int):=by rw[Int.natCast_mul,Int.natAbs_of_nonneg (by omega)]
 rw[Gj,e1,e2]
 unfold cmpL cmpN
 generalize x.num.natAbs*y.den=A
 generalize y.num.natAbs*x.den=B
 by_cases g:A<B
 ·rw[if_pos (by omega),if_pos g]
 ·rw[if_neg (by omega),if_neg g]
  by_cases g2:A=B
  ·rw[if_pos (by omega),if_pos g2]
  ·rw[if_neg (by omega),if_neg g2]
theorem KE{x y:Rat}(hs:sgnQ x=sgnQ y)(h:x.num<0):cmpQ x y= -cmpL x y:=by
 have c1:=zd x
 have c2:=zd y
 have e1:x.num*(y.den:Int)= -((x.num.natAbs*y.den:Nat):Int):=by
  rw[Int.natCast_mul,←Int.neg_mul];congr 1;omega
 have e2:y.num*(x.den:Int)= -((y.num.natAbs*x.den:Nat):Int):=by
  rw[Int.natCast_mul,←Int.neg_mul];congr 1;omega
 rw[Gj,e1,e2]
 unfold cmpL cmpN
 generalize x.num.natAbs*y.den=A
 generalize y.num.natAbs*x.den=B
 by_cases g:A<B
 ·rw[if_neg (by omega),if_neg (by omega),if_pos g];rfl
 ·rw[if_neg g]
  by_cases g2:A=B
  ·rw[if_neg (by omega),if_pos (by omega),if_pos g2];rfl
  ·rw[if_pos (by omega),if_neg g2]
theorem PL{a b c:Nat}(h:0<c):cmpN (a*c) (b*c)=cmpN a b:=by
 unfold cmpN
 simp only[Nat.mul_lt_mul_right h,Nat.mul_left_inj (Nat.ne_of_gt h)]
theorem BY{x y:Rat}(h:x.den=y.den):cmpN x.num.natAbs y.num.natAbs=cmpL x y:=by
 unfold cmpL;rw[←h,PL x.den_pos]
theorem Nc{x y:Rat}(hx:pn x=x.num.natAbs∧pd x=x.den∧0<pd x)(hy:pn y=y.num.natAbs∧pd y=y.den∧0<pd y):cmpL x y=cmpN (pn x*pd y) (pn y*pd x):=by
 unfold cmpL;rw[hx.1,hx.2.1,hy.1,hy.2.1]
theorem NP{a b:Nat}(h:limbs a=limbs b):a=b:=by
 have:=congrArg valL h
 rwa [qm,qm]at this
theorem Co(x y:Rat):x=y↔decide (x.num<0)=decide (y.num<0)∧limbs x.num.natAbs=limbs y.num.natAbs∧denL x.den=denL y.den:=by
 constructor
 ·intro h;subst h;exact⟨rfl,rfl,rfl⟩
 ·rintro⟨h1,h2,h3⟩
  rw[←zM x,←zM y,h1,NP h2,vG x.den_nz y.den_nz h3]
theorem q25{x y:Rat}(h: ¬decide (x.num<0)=decide (y.num<0)):false=decide (x=y):=(decide_eq_false (fun e=>h ((Co x y).1 e).1)).symm
theorem q26{x y:Rat}(h: ¬decide (limbs x.num.natAbs=limbs y.num.natAbs)=true):false=decide (x=y):=(decide_eq_false (fun e=>h (decide_eq_true ((Co x y).1 e).2.1))).symm
theorem q27{x y:Rat}(h1:decide (x.num<0)=decide (y.num<0))(h2:decide (limbs x.num.natAbs=limbs y.num.natAbs)=true):decide (denL x.den=denL y.den)=decide (x=y):=by
 rw[decide_eq_decide,Co]
 exact⟨fun h=>⟨h1,of_decide_eq_true h2,h⟩,fun h=>h.2.2⟩
def minQ(x y:Rat):Rat:=if cmpQ y x<0 then y else x
def maxQ(x y:Rat):Rat:=if 0<cmpQ y x then y else x
theorem Ch{x y:Rat}{b c:Bd}(hx:Bnd .rat b x)(hy:Bnd .rat c y):Bnd .rat (.n (max b.nb c.nb)) (minQ x y):=by
 unfold minQ;split
 ·exact⟨q9 (Nat.le_max_right _ _) hy.rat.1,wn (Nat.le_max_right _ _) hy.rat.2⟩
 ·exact⟨q9 (Nat.le_max_left _ _) hx.rat.1,wn (Nat.le_max_left _ _) hx.rat.2⟩
theorem J4{x y:Rat}{b c:Bd}(hx:Bnd .rat b x)(hy:Bnd .rat c y):Bnd .rat (.n (max b.nb c.nb)) (maxQ x y):=by
 unfold maxQ;split
 ·exact⟨q9 (Nat.le_max_right _ _) hy.rat.1,wn (Nat.le_max_right _ _) hy.rat.2⟩
 ·exact⟨q9 (Nat.le_max_left _ _) hx.rat.1,wn (Nat.le_max_left _ _) hx.rat.2⟩
theorem SubI.lt{x y i c s:Nat}{out:List Nat}(h:SubI x y i c out)(hi:i<(limbs x).length)(hs:s=c+(limbs y).getD i 0)(hl:(limbs x).getD i 0<s):
  SubI x y (i+1) 1 (out.set i (((limbs x).getD i 0+4294967296-s)%4294967296)):=by
 have h1:=q8 x i
 have h2:=q8 y i
 have hc:=h.hc
 have:=h.step hi hs
 have e:dif ((limbs x).getD i 0) s=(limbs x).getD i 0+18446744073709551616-s:=by rw[Bq];omega
 rw[e,show((limbs x).getD i 0+18446744073709551616-s)/9223372036854775808=1 by omega,show((limbs x).getD i 0+18446744073709551616-s)%4294967296=((limbs x).getD i 0+4294967296-s)%4294967296 by omega]at this
 exact this
theorem SubI.ge{x y i c s:Nat}{out:List Nat}(h:SubI x y i c out)(hi:i<(limbs x).length)(hs:s=c+(limbs y).getD i 0)(hl: ¬(limbs x).getD i 0<s):
  SubI x y (i+1) 0 (out.set i ((limbs x).getD i 0-s)):=by
 have h1:=q8 x i
 have:=h.step hi hs
 have e:dif ((limbs x).getD i 0) s=(limbs x).getD i 0-s:=by rw[Bq];omega
 rw[e,show((limbs x).getD i 0-s)/9223372036854775808=0 by omega,show((limbs x).getD i 0-s)%4294967296=(limbs x).getD i 0-s by omega]at this
 exact this
def xw(x:Nat):Nat:=if(limbs x).length≤2 then x else 0
def xk(x:Nat):Bool:=decide ((limbs x).length≤2)
theorem q2m(x:Nat):xw x≤18446744073709551615:=by
 unfold xw;split
 ·exact Nat.le_of_lt_succ (Ja (by assumption))
 ·omega
theorem xw_y{x:Nat}(h:(limbs x).length≤2):xw x=x∧xk x=true:=⟨if_pos h,decide_eq_true h⟩
theorem xw_n{x:Nat}(h: ¬(limbs x).length≤2):xw x=0∧xk x=false:=⟨if_neg h,decide_eq_false h⟩
theorem P8{x:Nat}(h:(limbs x).length=2):(limbs x).getD 0 0+(limbs x).getD 1 0*2^32=x:=by
 have h1:=vf (x:=x) (by omega)
 rw[h]at h1
 have h2:=qy (limbs x) 0
 simp only[Nat.reduceSub,Nat.zero_add,List.take_zero,valL,Nat.pow_zero,Nat.pow_one,Nat.one_mul]at h1 h2
 omega
theorem Th{v:Nat}(h:v≠0):bl v=bl (v/2^1)+1:=by
 by_cases e:v=1
 ·subst e;decide
 ·exact Aj (k:=1) (show 2^1≤v by omega)
theorem Du(l:List Nat)(u:Nat):valL (l++[u])=valL l+4294967296^l.length*u:=by rw[zB];simp[valL]
theorem Ct: ∀(n:Nat),valL (List.replicate n 0)=0
 |0=>rfl
 |n+1=>by rw[List.replicate_succ,valL,Ct n]
theorem GR{l:List Nat}{u:Nat}(h: ∀v∈l,v<4294967296)(hu:u<4294967296): ∀v∈l++[u],v<4294967296:=by
 intro v hv
 rcases List.mem_append.1 hv with hv|hv
 ·exact h v hv
 ·rw[List.mem_singleton.1 hv];exact hu
theorem J2{l:List Nat}(hu: ∀v∈l,v<4294967296)(h:(limbs (valL l)).length=l.length):l=limbs (valL l):=by
 have h1:=FF hu
 have h2:=FF (qF (valL l))
 rw[qm,h]at h2
 exact h1.trans h2.symm
theorem q1S{x n:Nat}(h:n<(limbs x).length):4294967296^n≤x:=by
 apply Nat.le_of_not_lt
 intro hl
 have:=AP (n:=x) (k:=n) hl
 unfold nl at this;omega
structure AddX (x y i c:Nat) (out:List Nat):Prop where
 hl:out.length=i
 hu: ∀u∈out,u<4294967296
 hc:c≤1
 hv:valL out+4294967296^i*c=valL ((limbs x).take i)+valL ((limbs y).take i)
 hi:i≤max (limbs x).length (limbs y).length+1
 hm:i=max (limbs x).length (limbs y).length+1→c=0∧4294967296^(max (limbs x).length (limbs y).length)≤x+y
theorem AddX.start(x y:Nat):AddX x y 0 0 []:=⟨rfl,fun u hu=>by simp at hu,by omega,by simp[valL],by omega,fun h=>by omega⟩
theorem AddX.le{x y i c:Nat}{out:List Nat}(h:AddX x y i c out)(hc:i<(limbs x).length∨i<(limbs y).length∨c≠0):i≤max (limbs x).length (limbs y).length:=by
 have:=h.hi
 rcases Nat.lt_or_ge (max (limbs x).length (limbs y).length) i with e|e
 ·have:=h.hm (by omega);omega
 ·exact e
theorem AddX.step{x y i c s:Nat}{out:List Nat}(h:AddX x y i c out)(hc:i<(limbs x).length∨i<(limbs y).length∨c≠0)(hs:s=c+(limbs x).getD i 0+(limbs y).getD i 0):
  AddX x y (i+1) (s/2^32) (out++[s%4294967296]):=by
 have hx:=q8 x i
 have hy:=q8 y i
 have hc1:=h.hc
 have hle:=h.le hc
 refine⟨by simp[h.hl],GR h.hu (Nat.mod_lt _ (by omega)),by omega,?_,by omega,?_⟩
 ·rw[Du,h.hl,qy,qy,Nat.pow_succ]
  have e:4294967296^i*(s%4294967296)+4294967296^i*4294967296*(s/2^32)=4294967296^i*s:=by
   rw[Nat.mul_assoc,←Nat.mul_add,show s/2^32=s/4294967296 from rfl,Nat.mod_add_div]
  have e2:4294967296^i*s=4294967296^i*c+4294967296^i*(limbs x).getD i 0+4294967296^i*(limbs y).getD i 0:=by rw[hs,Nat.mul_add,Nat.mul_add]
  have:=h.hv
  omega
 ·intro e
  have hx0:(limbs x).getD i 0=0:=qr (by omega)
  have hy0:(limbs y).getD i 0=0:=qr (by omega)
  have hv:=h.hv
  have hc0:c=1:=by omega
  rw[ji (by omega),ji (by omega),qm,qm,hc0,show i=max (limbs x).length (limbs y).length by omega]at hv
  refine⟨by omega,by omega⟩
theorem AddX.step2{x y i c s u:Nat}{out:List Nat}(h:AddX x y i c out)(hc:i<(limbs x).length∨i<(limbs y).length∨c≠0)(hs:s=c+(limbs x).getD i 0+(limbs y).getD i 0)(hu:u=s%4294967296):
  AddX x y (i+1) (s/2^32) (out++[u]):=by subst hu;exact h.step hc hs
theorem AddX.fin{x y i c:Nat}{out:List Nat}(h:AddX x y i c out)(h1: ¬i<(limbs x).length)(h2: ¬i<(limbs y).length)(h0:c=0):out=limbs (x+y):=by
 have hv:=h.hv
 rw[ji (by omega),ji (by omega),qm,qm,h0,Nat.mul_zero,Nat.add_zero]at hv
 rw[←hv]
 refine J2 h.hu ?_
 have l1:=GA h.hu
 have l2:(limbs x).length≤(limbs (valL out)).length:=jZ (by omega)
 have l3:(limbs y).length≤(limbs (valL out)).length:=jZ (by omega)
 have hl:=h.hl
 have hi:=h.hi
 rcases Nat.lt_or_ge (max (limbs x).length (limbs y).length) i with e|e
 ·have h9:=(h.hm (by omega)).2
  have:max (limbs x).length (limbs y).length<(limbs (valL out)).length:=by
   apply Nat.lt_of_not_le
   intro hl
   have h3:=jk (limbs (valL out)) (qF _)
   rw[qm]at h3
   have h4:=Nat.pow_le_pow_right (show 0<4294967296 by omega) hl
   omega
  omega
 ·omega
theorem Ol{a b:List Nat}(hb:b≠[])(h:zp b=true):zp (a++b)=true:=by
 induction a with
 |nil=>exact h
 |cons v r ih=>rw[List.cons_append,Cj (by simp[hb])];exact ih
theorem Eo{x k:Nat}(hx:x≠0):List.replicate k 0++limbs x=limbs (x*4294967296^k):=by
 have hne:limbs x≠[]:=by rw[jF hx];simp
 have hu: ∀u∈List.replicate k 0++limbs x,u<4294967296:=by
  intro u hu
  rcases List.mem_append.1 hu with hu|hu
  ·exact rep_lt k u hu
  ·exact qF x u hu
 have:=Cb hu (Ol hne (M9 x))
 rw[zB,Ct,qm,List.length_replicate,Nat.zero_add,Nat.mul_comm]at this
 exact this.symm
theorem Hy(s:Nat):4294967296^(s/32)*2^(s%32)=2^s:=by
 rw[show(4294967296:Nat)=2^32 from rfl,←Nat.pow_mul,←Nat.pow_add,Nat.div_add_mod]
structure UpX (x s i c:Nat) (out:List Nat):Prop where
 hl:out.length=s/32+i
 hu: ∀u∈out,u<4294967296
 hc:c<2^(s%32)
 hi:i≤(limbs x).length
 hv:valL out+4294967296^(s/32+i)*c=4294967296^(s/32)*(valL ((limbs x).take i)*2^(s%32))
theorem UpX.start(x s:Nat):UpX x s 0 0 (List.replicate (s/32) 0):=⟨by simp,rep_lt _,Nat.pow_pos (by omega),by omega,by simp[valL,Ct]⟩
theorem UpX.step{x s i c d:Nat}{out:List Nat}(h:UpX x s i c out)(hi:i<(limbs x).length)(hd:d=c+(limbs x).getD i 0*2^(s%32)):UpX x s (i+1) (d/2^32) (out++[d%4294967296]):=by
 have hx:=q8 x i
 have hc:=h.hc
 refine⟨by simp[h.hl];omega,GR h.hu (Nat.mod_lt _ (by omega)),?_,by omega,?_⟩
 ·rw[Nat.div_lt_iff_lt_mul (by omega)]
  have h1:(limbs x).getD i 0*2^(s%32)≤4294967295*2^(s%32):=Nat.mul_le_mul_right _ (by omega)
  omega
 ·rw[Du,h.hl,qy,←Nat.add_assoc,Nat.pow_succ]
  have e:4294967296^(s/32+i)*(d%4294967296)+4294967296^(s/32+i)*4294967296*(d/2^32)=4294967296^(s/32+i)*d:=by
   rw[Nat.mul_assoc,←Nat.mul_add,show d/2^32=d/4294967296 from rfl,Nat.mod_add_div]
  have e2:4294967296^(s/32+i)*d=4294967296^(s/32+i)*c+4294967296^(s/32)*(4294967296^i*(limbs x).getD i 0*2^(s%32)):=by
   rw[hd,Nat.mul_add,Nat.pow_add];simp only[Nat.mul_assoc]
  have:=h.hv
  rw[Nat.add_mul,Nat.mul_add]
  omega
theorem UpX.fin{x s i c:Nat}{out:List Nat}(h:UpX x s i c out)(hi: ¬i<(limbs x).length):valL (out++[c])=x*2^s∧ ∀u∈out++[c],u<4294967296:=by
 have hc:=h.hc
 have h1:=Nat.pow_le_pow_right (show 0<2 by omega) (show s%32≤32 by omega)
 refine⟨?_,GR h.hu (by omega)⟩
 have hv:=h.hv
 rw[ji (by omega),qm]at hv
 rw[Du,h.hl,hv,←Hy s,Nat.mul_left_comm]
theorem q2g{x s i c:Nat}{out:List Nat}(h:UpX x s i c out):c+(limbs x).getD i 0*2^(s%32)<18446744073709551616:=Hx (q8 x i) (by omega) h.hc
theorem C1: ∀(k x:Nat),(limbs x).drop k=limbs (x/4294967296^k)
 |0,x=>by simp
 |k+1,x=>by
  by_cases e:x=0
  ·subst e;simp[zn]
  ·rw[jF e,List.drop_succ_cons,C1 k,Nat.pow_succ,Nat.mul_comm,Nat.div_div_eq_div_mul]
structure DownX (w r i:Nat) (out:List Nat):Prop where
 hl:out.length=(limbs w).length
 hi:i≤(limbs w).length
 hu: ∀u∈out,u<4294967296
 hv:valL (out.take i)=w/2^r%4294967296^i
theorem DownX.start(w r:Nat):DownX w r 0 (List.replicate (limbs w).length 0):=⟨by simp,by omega,rep_lt _,by simp[valL,Nat.mod_one]⟩
theorem PS{m r:Nat}(hr:r≤32):m/2^r%4294967296=(m%18446744073709551616)/2^r%4294967296:=by
 have h1:(2:Nat)^r*2^(64-r)=18446744073709551616:=by rw[←Nat.pow_add,show r+(64-r)=64 by omega]
 have h2:(2:Nat)^(64-r)=4294967296*2^(32-r):=by rw[show(4294967296:Nat)=2^32 from rfl,←Nat.pow_add];congr 1;omega
 have h3:=Nat.div_add_mod m 18446744073709551616
 generalize m%18446744073709551616=v at*
 rw[←h3,←h1,Nat.mul_assoc,Nat.mul_add_div (Nat.pow_pos (by omega)),h2,Nat.mul_assoc,Nat.mul_add_mod]
theorem DownX.step{w r i v:Nat}{out:List Nat}(h:DownX w r i out)(hr:r≤32)(hi:i<(limbs w).length)(hv:v=(limbs w).getD i 0+(limbs w).getD (i+1) 0*4294967296):
  DownX w r (i+1) (out.set i (v/2^r%4294967296)):=by
 have hl:=h.hl
 refine⟨by simp[hl],by omega,jj h.hu (Nat.mod_lt _ (by omega)),?_⟩
 rw[jz (by omega),h.hv,Nat.mod_pow_succ]
 congr 2
 have e1:=zJ (qF w) i
 have e2:=zJ (qF w) (i+1)
 rw[qm]at e1 e2
 rw[Nat.pow_succ,←Nat.div_div_eq_div_mul]at e2
 rw[e1,e2]at hv
 rw[Nat.div_div_eq_div_mul,Nat.mul_comm,←Nat.div_div_eq_div_mul,@PS (w/4294967296^i) r hr]
 congr 2
 generalize w/4294967296^i=m at*
 omega
theorem DownX.fin{w r i:Nat}{out:List Nat}(h:DownX w r i out)(hi: ¬i<(limbs w).length):valL out=w/2^r:=by
 have hv:=h.hv
 have h1:=h.hi
 have e:i=(limbs w).length:=by omega
 have hl:=h.hl
 rw[ji (by omega)]at hv
 rw[hv,Nat.mod_eq_of_lt]
 have:=jk (limbs w) (qF w)
 rw[qm,←e]at this
 exact Nat.lt_of_le_of_lt (Nat.div_le_self _ _) this
theorem IE(x s:Nat):x/4294967296^(s/32)/2^(s%32)=x/2^s:=by rw[Nat.div_div_eq_div_mul,Hy]
theorem Nn{x s:Nat}(h:(limbs x).length≤s/32):0=x/2^s:=by
 rw[←IE,Nat.div_eq_of_lt (a:=x),Nat.zero_div]
 have h1:=jk (limbs x) (qF x)
 rw[qm]at h1
 exact Nat.lt_of_lt_of_le h1 (Nat.pow_le_pow_right (by omega) h)
theorem HJ: ∀{ls:List Nat}{k d:Nat},k<ls.length→ls.getD k 0=0→valL (ls.set k d)=valL ls+4294967296^k*d
 |u::r,0,d,_,h=>by simp at h;subst h;simp[valL];omega
 |u::r,k+1,d,hk,h=>by
  simp only[List.getD_cons_succ]at h
  simp only[List.length_cons]at hk
  rw[List.set_cons_succ,valL,valL,HJ (by omega) h,Nat.pow_succ,Nat.mul_add,←Nat.mul_assoc,Nat.mul_comm 4294967296 (4294967296^k)];omega
structure DX (A V L:Nat) (z:Int) (q:List Nat) (r:Nat):Prop where
 hz: -1≤z
 hz1:z<L
 hl:q.length=L
 hu: ∀u∈q,u<4294967296
 hv:A=valL q*V+r
 hr:r<V*4294967296^(z+1).toNat
 h0: ∀j:Nat,(j:Int)≤z→q.getD j 0=0
theorem DX.start{A V L n:Nat}(hn0:0<n)(hn:n=(limbs V).length)(hn:n≤(limbs A).length)(hL:L=(limbs A).length-n+1):DX A V L (((limbs A).length:Int) -n) (List.replicate L 0) A:=by
 refine⟨by omega,by omega,by simp,rep_lt _,by rw[Ct];omega,?_,fun j _=>?_⟩
 ·have h1:=jk (limbs A) (qF A)
  rw[qm]at h1
  have h2:=q1S (x:=V) (n:=n-1) (by omega)
  have h3:(4294967296:Nat)^(limbs A).length=4294967296^(n-1)*4294967296^((limbs A).length-n+1):=by rw[←Nat.pow_add];congr 1;omega
  rw[show((((limbs A).length:Int) -n+1).toNat)=(limbs A).length-n+1 by omega]
  rw[h3]at h1
  exact Nat.lt_of_lt_of_le h1 (Nat.mul_le_mul_right _ h2)
 ·simp[List.getD_eq_getElem?_getD,List.getElem?_replicate];split<;>rfl
structure EX (V k r d p:Nat):Prop where
 hp:p=V*d*4294967296^k
 hd:r/(V*4294967296^k)≤d
 h1:d≤4294967295
theorem DX.est{A V L n k T:Nat}{z:Int}{q:List Nat}{r:Nat}(h:DX A V L z q r)(hz:0≤z)(hk:k=z.toNat)(hV:0<V)(hn0:0<n)(hn:n=(limbs V).length)
  (hT:T=(limbs r).getD (k+n) 0*4294967296+(limbs r).getD (k+n-1) 0):
  EX V k r (min (T/(limbs V).getD (n-1) 0) 4294967295) (V*min (T/(limbs V).getD (n-1) 0) 4294967295*4294967296^k):=by
 have hP:=Nat.mul_pos hV (Nat.pow_pos (n:=k) (show 0<4294967296 by omega))
 have hr:=h.hr
 rw[show(z+1).toNat=k+1 by omega,Nat.pow_succ,←Nat.mul_assoc]at hr
 have hq:r/(V*4294967296^k)<4294967296:=by rw[Nat.div_lt_iff_lt_mul hP,Nat.mul_comm];exact hr
 refine⟨rfl,Nat.le_min.2 ⟨?_,by omega⟩,Nat.min_le_right _ _⟩
 have hv:=ED V (n-1) (by omega)
 have hvp:0<(limbs V).getD (n-1) 0:=by
  have:=zC (x:=V) (by omega)
  rw[←hn]at this;omega
 rw[Nat.le_div_iff_mul_le hvp]
 have e1:=zJ (qF r) (k+n)
 have e2:=zJ (qF r) (k+n-1)
 rw[qm]at e1 e2
 have hVl:=jk (limbs V) (qF V)
 rw[qm,←hn]at hVl
 --the top of r
 have hT2:T=r/4294967296^(k+n-1):=by
  have hrl:r/4294967296^(k+n-1)<18446744073709551616:=by
   rw[Nat.div_lt_iff_lt_mul (Nat.pow_pos (by omega))]
   have e3:18446744073709551616*4294967296^(k+n-1)=4294967296^n*4294967296^k*4294967296:=by
    rw[←Nat.pow_add,show(18446744073709551616:Nat)=4294967296^2 from rfl,←Nat.pow_add,←Nat.pow_succ];congr 1;omega
   rw[e3]
   refine Nat.lt_of_lt_of_le hr (Nat.mul_le_mul_right _ (Nat.mul_le_mul_right _ (Nat.le_of_lt hVl)))
  have e4:r/4294967296^(k+n)=r/4294967296^(k+n-1)/4294967296:=by
   rw[Nat.div_div_eq_div_mul,←Nat.pow_succ];congr 2;omega
  rw[e4]at e1
  rw[hT,e1,e2]
  generalize r/4294967296^(k+n-1)=m at*
  omega
 rw[hT2,Nat.le_div_iff_mul_le (Nat.pow_pos (by omega)),hv]
 have h5:V/4294967296^(n-1)*4294967296^(n-1)≤V:=Nat.div_mul_le_self _ _
 have h6:r/(V*4294967296^k)*(V*4294967296^k)≤r:=Nat.div_mul_le_self _ _
 have e5:(4294967296:Nat)^(k+n-1)=4294967296^(n-1)*4294967296^k:=by rw[←Nat.pow_add];congr 1;omega
 rw[e5,Nat.mul_assoc,←Nat.mul_assoc (V/_)]
 exact Nat.le_trans (Nat.mul_le_mul_left _ (Nat.mul_le_mul_right _ h5)) h6
theorem EX.gt{V k r d p:Nat}(h:EX V k r d p)(hV:0<V)(hc:r<p):1≤d∧V*4294967296^k≤p∧EX V k r (d-1) (p-V*4294967296^k):=by
 have hP:=Nat.mul_pos hV (Nat.pow_pos (n:=k) (show 0<4294967296 by omega))
 have h1:=h.h1
 have hp:p=d*(V*4294967296^k):=by rw[h.hp,Nat.mul_comm V d,Nat.mul_assoc]
 have hlt:r/(V*4294967296^k)<d:=by rw[Nat.div_lt_iff_lt_mul hP,←hp];exact hc
 have hd1:1≤d:=Nat.lt_of_le_of_lt (Nat.zero_le _) hlt
 refine⟨hd1,?_,?_,Nat.le_sub_one_of_lt hlt,by omega⟩
 ·rw[hp];exact Nat.le_mul_of_pos_left _ (by omega)
 ·rw[Nat.mul_comm V (d-1),Nat.mul_assoc,Nat.sub_mul,←hp,Nat.one_mul]
theorem DX.next{A V L k d p:Nat}{z:Int}{q:List Nat}{r:Nat}(h:DX A V L z q r)(hz:0≤z)(hk:k=z.toNat)(hV:0<V)(e:EX V k r d p)(hc:p≤r):DX A V L (z-1) (q.set k d) (r-p):=by
 have hP:=Nat.mul_pos hV (Nat.pow_pos (n:=k) (show 0<4294967296 by omega))
 have hz1:=h.hz1
 have hl:=h.hl
 have h1:=e.h1
 have hp:p=d*(V*4294967296^k):=by rw[e.hp,Nat.mul_comm V d,Nat.mul_assoc]
 have hd:r<(d+1)*(V*4294967296^k):=by rw[←Nat.div_lt_iff_lt_mul hP];exact Nat.lt_succ_of_le e.hd
 refine⟨by omega,by omega,by simp[hl],jj h.hu (by omega),?_,?_,fun j hj=>?_⟩
 ·rw[HJ (by omega) (h.h0 k (by omega)),Nat.add_mul,h.hv]
  rw[Nat.mul_comm (4294967296^k) d,Nat.mul_assoc,Nat.mul_comm (4294967296^k) V,←hp];omega
 ·rw[show(z-1+1).toNat=k by omega]
  rw[Nat.add_mul,←hp]at hd;omega
 ·rw[B9 (by omega)];exact h.h0 j (by omega)
theorem DX.fin{x y s L:Nat}{z:Int}{q:List Nat}{r:Nat}(h:DX (x*2^s) (y*2^s) L z q r)(hy:0<y)(hz:z<0):valL q=x/y∧r/2^s=x%y:=by
 have hp:=Nat.pow_pos (n:=s) (show 0<2 by omega)
 have h1:=h.hz
 have hr:=h.hr
 have hv:=h.hv
 rw[show(z+1).toNat=0 by omega,Nat.pow_zero,Nat.mul_one]at hr
 have e1:(x*2^s)/(y*2^s)=valL q:=by
  rw[hv,Nat.mul_comm (valL q),Nat.mul_add_div (Nat.mul_pos hy hp),Nat.div_eq_of_lt hr];rfl
 have e2:(x*2^s)%(y*2^s)=r:=by rw[hv,Nat.mul_comm (valL q),Nat.mul_add_mod,Nat.mod_eq_of_lt hr]
 rw[Nat.mul_div_mul_right _ _ hp]at e1
 rw[Nat.mul_mod_mul_right]at e2
 exact⟨e1.symm,by rw[←e2,Nat.mul_div_cancel _ hp]⟩
theorem Ht{x k a c:Nat}(h:lt2 x a)(hk:k≤c):lt2 (x*4294967296^k) (a+32*c):=by
 unfold lt2 at*
 rw[show(4294967296:Nat)=2^32 from rfl,←Nat.pow_mul,Nat.pow_add]
 exact Nat.lt_of_lt_of_le (Nat.mul_lt_mul_of_pos_right h (Nat.pow_pos (by omega))) (Nat.mul_le_mul_left _ (Nat.pow_le_pow_right (by omega) (by omega)))
theorem YG{x s a c:Nat}(h:lt2 x a)(hs:s≤c):lt2 (x*2^s) (a+c):=by
 unfold lt2 at*
 rw[Nat.pow_add]
 exact Nat.lt_of_lt_of_le (Nat.mul_lt_mul_of_pos_right h (Nat.pow_pos (by omega))) (Nat.mul_le_mul_left _ (Nat.pow_le_pow_right (by omega) hs))
theorem Gw{y:Nat}:lt2 (y/4294967296^((limbs y).length-1)) 32:=by
 unfold lt2
 rw[Nat.div_lt_iff_lt_mul (Nat.pow_pos (by omega)),show(2:Nat)^32=4294967296 from rfl,Nat.mul_comm,←Nat.pow_succ]
 have h1:=jk (limbs y) (qF y)
 rw[qm]at h1
 exact Nat.lt_of_lt_of_le h1 (Nat.pow_le_pow_right (by omega) (by omega))
theorem XH{b:Nat}(h:b<4294967296):qw .or .u64 0 (b:Int) ((0+b:Nat):Int):=AD (a:=0) (b:=b) 0 32 rfl h (by omega)
def dm(d:Nat):Nat:=if d=1 then 0 else d
theorem KI(d:Nat):denL d=limbs (dm d):=by unfold denL dm;split<;>rfl
theorem Nm{d b:Nat}(h:le2 d b):lt2 (dm d) (b+1):=by
 unfold dm;split
 ·exact Nat.pow_pos (by omega)
 ·exact Bx h
theorem XX{d e:Nat}(hd:d≠0)(he:e≠0):cmpN (dm d) (dm e)=0↔d=e:=by
 rw[Bo];unfold dm;split<;>split<;>omega
theorem ysame{x y:Rat}(h: ¬decide (x.num<0)=decide (y.num<0)∨ ¬cmpN x.num.natAbs y.num.natAbs=0∨ ¬cmpN (dm x.den) (dm y.den)=0):false=decide (x=y):=by
 symm;apply decide_eq_false
 intro e;subst e
 rcases h with h|h|h
 ·exact h rfl
 ·exact h (Bo.2 rfl)
 ·exact h (Bo.2 rfl)
theorem q13{x y:Rat}(h1:decide (x.num<0)=decide (y.num<0))(h2:cmpN x.num.natAbs y.num.natAbs=0):decide (cmpN (dm x.den) (dm y.den)=0)=decide (x=y):=by
 have e:cmpN (dm x.den) (dm y.den)=0↔x=y:=by
  rw[XX x.den_nz y.den_nz,Co x y]
  constructor
  ·intro h;exact⟨h1,by rw[Bo.1 h2],by rw[h]⟩
  ·rintro⟨_,_,h⟩;exact vG x.den_nz y.den_nz h
 rw[decide_eq_decide];exact e
theorem Gz(x:Rat):(-x).num.natAbs=x.num.natAbs:=by rw[Rat.neg_num,Int.natAbs_neg]
theorem BA{x:Rat}{b:Bd}(h:Bnd .rat b x):Bnd .rat (.n b.nb) (-x):=by
 have h1:=h.rat
 exact⟨by rw[Gz];exact h1.1,by rw[Rat.neg_den];exact h1.2⟩
theorem Z7{x:Rat}(h: ¬x.num<0):decide (0<(limbs x.num.natAbs).length)=decide ((-x).num<0):=by
 rw[decide_eq_decide,Rat.neg_num]
 have:= @nl0 x.num.natAbs
 omega
theorem Z8{x:Rat}(h:x.num<0):false=decide ((-x).num<0):=by
 symm;apply decide_eq_false;rw[Rat.neg_num];omega
theorem A6(v:Int):((v:Rat)).num=v:=Rat.num_intCast v
theorem DM(v:Int):((v:Rat)).den=1:=Rat.den_intCast v
def mkC'(d:Int):Int:=if d=0 then 3 else 0
theorem q1F(d:Int):(mkC' d).natAbs≤3:=by unfold mkC';split<;>decide
theorem L7(n d:Int):sgQ (decide (decide (n<0)≠decide (d<0))) n.natAbs d.natAbs=(n:Rat)/(d:Rat):=by
 by_cases h:d=0
 ·subst h;simp[BJ,Rat.div_def]
 ·have:=Da (x:=(n:Rat)) (y:=(d:Rat)) (by rw[A6];omega)
  rw[A6,A6,DM,DM,Nat.mul_one,Nat.one_mul]at this
  exact this
theorem Cg{n d:Int}{b c:Nat}(hn:n.natAbs≤b)(hd:d.natAbs≤c):Bnd .rat (.n (max (Nat.log2 b+1) (Nat.log2 c+1))) ((n:Rat)/(d:Rat)):=by
 rw[←L7]
 exact EQ (q9 (Nat.le_max_left _ _) (zo hn)) (q9 (Nat.le_max_right _ _) (zo hd))
def Bd.mx:Bd→Nat
 | .u=>0
 | .n b=>b
 | .s _ e=>e.mx
 | .p a b=>max a.mx b.mx
abbrev V3:Type:=Rat×Rat×Rat
abbrev tV3:Ty:= .pr .rat (.pr .rat .rat)
abbrev bV3(m:Nat):Bd:= .p (.n m) (.p (.n m) (.n m))
theorem At{b:Bd}{x:Rat}{m:Nat}(h:Bnd .rat b x)(hm:b.nb≤m):Bnd .rat (.n m) x:=by
 have h:=h.rat
 exact⟨q9 hm h.1,Nat.le_trans h.2 (Nat.pow_le_pow_right (by omega) hm)⟩
theorem Bd.nb_mx(b:Bd):b.nb≤b.mx:=by cases b<;>simp[Bd.nb,Bd.mx]
theorem Bd.l_mx(b:Bd):b.l.mx≤b.mx:=by cases b<;>simp[Bd.l,Bd.mx]<;>omega
theorem Bd.r_mx(b:Bd):b.r.mx≤b.mx:=by cases b<;>simp[Bd.r,Bd.mx]<;>omega
theorem Bnd.ratM{b:Bd}{x:Rat}(h:Bnd .rat b x):Bnd .rat (.n b.mx) x:=At h b.nb_mx
theorem Bnd.v3{b:Bd}{x:V3}(h:Bnd tV3 b x):Bnd .rat (.n b.mx) x.1∧Bnd .rat (.n b.mx) x.2.1∧Bnd .rat (.n b.mx) x.2.2:=by
 have h1:=h.pr
 have h2:=h1.2.pr
 have:=b.l_mx;have:=b.r_mx;have:=b.r.l_mx;have:=b.r.r_mx
 exact⟨At h1.1 (Nat.le_trans (Bd.nb_mx _) (by omega)),At h2.1 (Nat.le_trans (Bd.nb_mx _) (by omega)),At h2.2 (Nat.le_trans (Bd.nb_mx _) (by omega))⟩
theorem zu{m:Nat}{x:V3}(h:Bnd .rat (.n m) x.1∧Bnd .rat (.n m) x.2.1∧Bnd .rat (.n m) x.2.2):(WV.c (.agg [.dt tV3 (bV3 m) x])).ok:=qP h
def addV(p q:V3):V3:=(p.1+q.1,p.2.1+q.2.1,p.2.2+q.2.2)
def subV(p q:V3):V3:=(p.1-q.1,p.2.1-q.2.1,p.2.2-q.2.2)
def mulV(p q:V3):V3:=(p.1*q.1,p.2.1*q.2.1,p.2.2*q.2.2)
def qI(r:Rat)(p:V3):V3:=(r*p.1,r*p.2.1,r*p.2.2)
def dotQ(p q:V3):Rat:=p.1*q.1+p.2.1*q.2.1+p.2.2*q.2.2
def qc(p q:V3):V3:=(p.2.1*q.2.2-p.2.2*q.2.1,p.2.2*q.1-p.1*q.2.2,p.1*q.2.1-p.2.1*q.1)
theorem vo{x y:Rat}{a b:Nat}(hx:Bnd .rat (.n a) x)(hy:Bnd .rat (.n b) y):Bnd .rat (.n (a+b)) (x*y):=Be hx hy
theorem F5{x y:Rat}{a b:Nat}(hx:Bnd .rat (.n a) x)(hy:Bnd .rat (.n b) y):Bnd .rat (.n (a+b+1)) (x+y):=Ep hx hy
theorem wW{x y:Rat}{a b:Nat}(hx:Bnd .rat (.n a) x)(hy:Bnd .rat (.n b) y):Bnd .rat (.n (a+b+1)) (x-y):=ER hx hy
theorem F4{b c:Bd}{p q:V3}(hp:Bnd tV3 b p)(hq:Bnd tV3 c q):Bnd tV3 (bV3 (b.mx+c.mx+1)) (addV p q):=
 ⟨F5 hp.v3.1 hq.v3.1,F5 hp.v3.2.1 hq.v3.2.1,F5 hp.v3.2.2 hq.v3.2.2⟩
theorem FY{b c:Bd}{p q:V3}(hp:Bnd tV3 b p)(hq:Bnd tV3 c q):Bnd tV3 (bV3 (b.mx+c.mx+1)) (subV p q):=
 ⟨wW hp.v3.1 hq.v3.1,wW hp.v3.2.1 hq.v3.2.1,wW hp.v3.2.2 hq.v3.2.2⟩
theorem Z3{b c:Bd}{p q:V3}(hp:Bnd tV3 b p)(hq:Bnd tV3 c q):Bnd tV3 (bV3 (b.mx+c.mx)) (mulV p q):=
 ⟨vo hp.v3.1 hq.v3.1,vo hp.v3.2.1 hq.v3.2.1,vo hp.v3.2.2 hq.v3.2.2⟩
theorem EO{b c:Bd}{r:Rat}{q:V3}(hp:Bnd .rat b r)(hq:Bnd tV3 c q):Bnd tV3 (bV3 (b.mx+c.mx)) (qI r q):=
 ⟨vo hp.ratM hq.v3.1,vo hp.ratM hq.v3.2.1,vo hp.ratM hq.v3.2.2⟩
theorem ja{x:Rat}{a b:Nat}(h:Bnd .rat (.n a) x)(hm:a≤b):Bnd .rat (.n b) x:=At h hm
theorem ID{b c:Bd}{p q:V3}(hp:Bnd tV3 b p)(hq:Bnd tV3 c q):Bnd .rat (.n (3*(b.mx+c.mx)+2)) (dotQ p q):=
 ja (F5 (F5 (vo hp.v3.1 hq.v3.1) (vo hp.v3.2.1 hq.v3.2.1)) (vo hp.v3.2.2 hq.v3.2.2)) (by omega)
theorem Ex{b c:Bd}{p q:V3}(hp:Bnd tV3 b p)(hq:Bnd tV3 c q):Bnd tV3 (bV3 (2*(b.mx+c.mx)+1)) (qc p q):=
 ⟨ja (wW (vo hp.v3.2.1 hq.v3.2.2) (vo hp.v3.2.2 hq.v3.2.1)) (by omega),ja (wW (vo hp.v3.2.2 hq.v3.1) (vo hp.v3.1 hq.v3.2.2)) (by omega),ja (wW (vo hp.v3.1 hq.v3.2.1) (vo hp.v3.2.1 hq.v3.1)) (by omega)⟩
theorem wQ{p q:V3}:p=q↔p.1=q.1∧p.2.1=q.2.1∧p.2.2=q.2.2:=by
 obtain⟨a,b,c⟩:=p;obtain⟨d,e,f⟩:=q;simp
theorem G5{p q:V3}(h: ¬p.1=q.1∨ ¬p.2.1=q.2.1∨ ¬p.2.2=q.2.2):false=decide (p=q):=by
 symm;apply decide_eq_false;intro e;subst e;simp at h
theorem q0r{p q:V3}(h1:p.1=q.1)(h2:p.2.1=q.2.1)(h3:p.2.2=q.2.2):true=decide (p=q):=(decide_eq_true (wQ.2 ⟨h1,h2,h3⟩)).symm
theorem nd{p:Prop}[Decidable p](h:(!decide p)=true): ¬p:=by simpa using h
theorem nd'{p:Prop}[Decidable p](h: ¬(!decide p)=true):p:=by simpa using h
theorem yd{p:Prop}[Decidable p](h:decide p=true):p:=of_decide_eq_true h
theorem yd'{p:Prop}[Decidable p](h: ¬decide p=true): ¬p:=fun e=>h (decide_eq_true e)
theorem qE{α:Type}{l:List α}{d:α}{i:Nat}(h:i<l.length):l.getD i d=l[i]:=by simp[List.getD_eq_getElem?_getD,h]
theorem jW{α:Type}{l:List α}{d:α}{i:Nat}(h:i<l.length):l.take (i+1)=l.take i++[l.getD i d]:=by
 rw[qE h,List.take_succ_eq_append_getElem h]
theorem Ju{α:Type}{l:List α}{v:α}{i:Nat}(h:i<l.length):(l.set i v).take (i+1)=l.take i++[v]:=by
 rw[List.take_succ_eq_append_getElem (by simpa using h),List.getElem_set_self]
 congr 1
 rw[List.take_set,List.set_eq_of_length_le (by simp;omega)]
structure Cpy {α:Type} (l out:List α) (i:Nat):Prop where
 hl:out.length=l.length
 hi:i≤l.length
 ht:out.take i=l.take i
theorem Cpy.start{α:Type}{l:List α}(d:α):Cpy l (List.replicate l.length d) 0:=⟨by simp,by omega,by simp⟩
theorem Cpy.step{α:Type}{l out:List α}{i:Nat}(h:Cpy l out i)(d:α)(hi:i<l.length):Cpy l (out.set i (l.getD i d)) (i+1):=
 ⟨by simp[h.hl],by omega,by rw[Ju (by rw[h.hl];exact hi),jW hi,h.ht]⟩
theorem Cpy.fin{α:Type}{l out:List α}{i:Nat}(h:Cpy l out i)(hi: ¬i<l.length):out=l:=by
 have h1:=h.hl
 have h2:=h.hi
 have:=h.ht
 rwa [List.take_of_length_le (by omega),List.take_of_length_le (by omega)]at this
abbrev Dice:Type:=List Int×Nat
abbrev js:Ty:= .pr (.sl (.int .i64)) (.nat .i64)
theorem mod_a{a m:Int}(hm:0<m)(h:Int.tmod a m<0):Int.tmod a m+m=a%m:=by
 have h1:=Int.tmod_eq_emod (a:=a) (b:=m)
 have h2:=Int.emod_nonneg a (show m≠0 by omega)
 have h3:=Int.emod_lt_of_pos a hm
 split at h1<;>omega
theorem q1H{a m:Int}(hm:0<m)(h: ¬Int.tmod a m<0):Int.tmod a m=a%m:=by
 have h1:=Int.tmod_eq_emod (a:=a) (b:=m)
 have h2:=Int.emod_nonneg a (show m≠0 by omega)
 have h3:=Int.emod_lt_of_pos a hm
 split at h1<;>omega
theorem O0{a m:Int}{b:Nat}(hm:0<m)(hb:Int.natAbs m≤b):(a%m).natAbs≤b:=by
 have h2:=Int.emod_nonneg a (show m≠0 by omega)
 have h3:=Int.emod_lt_of_pos a hm
 omega
def q7(s:Dice)(m:Int):Int:=if s.1.length≤s.2 then 0 else s.1.getD s.2 0%m
def q6(s:Dice):Dice:=if s.1.length≤s.2 then s else(s.1,s.2+1)
theorem Vi{s:Dice}{m:Int}{b:Nat}(hm:0<m)(hb:Int.natAbs m≤b):(q7 s m).natAbs≤b:=by
 unfold q7;split
 ·simp
 ·exact O0 hm hb
theorem jX(s:Dice){m:Int}(hm:0<m):0≤q7 s m∧q7 s m<m:=by
 unfold q7;split
 ·omega
 ·exact⟨Int.emod_nonneg _ (by omega),Int.emod_lt_of_pos _ hm⟩
theorem DZ{s:Dice}{b:Bd}(h:Bnd js b s):Bnd js (.p b.l (.n (max b.r.nb b.l.len))) (q6 s):=by
 have h1:=h.pr
 have h2:=h1.2.nat
 have h3:=h1.1.sl.1
 unfold q6;split
 ·exact⟨h1.1,Nat.le_trans h2 (Nat.le_max_left _ _)⟩
 ·refine⟨h1.1,?_⟩
  show s.2+1≤_
  have:=Nat.le_max_right b.r.nb b.l.len
  omega
theorem jM{s:Dice}{b:Bd}(h:Bnd js (.p b.l (.n (max b.r.nb b.l.len))) s):Bnd js (.p b.l (.n (max b.r.nb b.l.len))) (q6 s):=by
 have:=DZ h
 simpa[Bd.l,Bd.r,Bd.nb,Nat.max_assoc]using this
theorem Ni{s:Dice}{b:Bd}(h:Bnd js b s):Bnd js (.p b.l (.n (max b.r.nb b.l.len))) s:=
 ⟨h.pr.1,Nat.le_trans h.pr.2.nat (Nat.le_max_left _ _)⟩
def oneV(s:Dice):Rat:=if q7 (q6 s) 4=3 then((q7 (q6 (q6 s)) 9:Int):Rat)/((2:Int):Rat)else((q7 s 5:Int):Rat)
def oneS(s:Dice):Dice:=if q7 (q6 s) 4=3 then q6 (q6 (q6 s))else q6 (q6 s)
theorem A7{s:Dice}{b:Bd}(h:Bnd js (.p b.l (.n (max b.r.nb b.l.len))) s):Bnd js (.p b.l (.n (max b.r.nb b.l.len))) (oneS s):=by
 have h1:=jM (jM h)
 unfold oneS;split
 ·exact jM h1
 ·exact h1
theorem Jl(s:Dice):Bnd .rat (.n 5) (oneV s):=by
 have h1:=jX s (m:=5) (by omega)
 have h2:=jX (q6 (q6 s)) (m:=9) (by omega)
 have e1:Nat.log2 19+1=5:=by decide
 have e2:max (Nat.log2 19+1) (Nat.log2 5+1)=5:=by decide
 unfold oneV;split
 ·have:=Cg (n:=q7 (q6 (q6 s)) 9) (d:=2) (b:=19) (c:=5) (by omega) (by omega)
  rwa [e2]at this
 ·have:=A5 (v:=q7 s 5) (b:=19) (by omega)
  rwa [e1]at this
def j8(s:Dice):V3:=(oneV s,oneV (oneS s),oneV (oneS (oneS s)))
def j7(s:Dice):Dice:=oneS (oneS (oneS s))
theorem WQ{s:Dice}{b:Bd}(h:Bnd js b s):Bnd js (.p b.l (.n (max b.r.nb b.l.len))) (j7 s):=by
 unfold j7;exact A7 (b:=b) (A7 (b:=b) (A7 (b:=b) (Ni (b:=b) h)))
theorem Lz(s:Dice):Bnd tV3 (bV3 5) (j8 s):=by
 have h1:=Jl s;have h2:=Jl (oneS s);have h3:=Jl (oneS (oneS s))
 unfold j8
 generalize oneV s=a at*;generalize oneV (oneS s)=c at*;generalize oneV (oneS (oneS s))=d at*
 exact⟨h1,h2,h3⟩
abbrev Uv:FI:=⟨9,[(.sl (.int .i64))],[(.s 9223372036854775807 (.n 9223372036854775808))],fun _=>[],fun b z=>(fun(l:List Int)=> .c (.one (.dt .bool .u (decide (l.length≤500))))) z⟩
theorem Uw:Uv.OK Tryz.prog:=mkF hmix 6 Tryz.func9 rfl rfl (by decide) [] (fun(l:List Int) b hx hp=>qa trivial rfl) (fun(l:List Int) hx hp=>by
 refine⟨.nil,kcast (by kernel_rfl) ((Eq.refl (decide (l.length≤500))))⟩)
abbrev Uu:Ctr Tryz.prog:=FI.c Uw
abbrev XZ:FI:=⟨76,[(.int .i64),(.int .i64)],[(.n 9223372036854775808),(.n 1099511627776)],fun z=>(fun(a:Int)(m:Int)=>[(0:Int)<m]) z.1 z.2,fun b z=>(fun(a:Int)(m:Int)=> .c (.one (.dt (.int .i64) (.n (b1 b).nb) (a%m)))) z.1 z.2⟩
theorem Y0:XZ.OK Tryz.prog:=mkF hmix 14 Tryz.func76 rfl rfl (by decide) [] (fun(a:Int)(m:Int) b hx hp=>qa (O0 (hp _ List.mem_cons_self) (Bnds.h2 hx).2.int) rfl) (fun(a:Int)(m:Int) hx hp=>by
 have hx0:Int.natAbs a≤9223372036854775808:=hx.1
 have hx1:Int.natAbs m≤1099511627776:=hx.2
 have hp0:(0:Int)<m:=hp _ (List.mem_cons_self)
 refine⟨.nil,kcast (by kernel_rfl) (I (?_:m≠0) (Sp (Int.tmod a m<0) (fun h1=>(mod_a hp0 h1:(Int.tmod a m)+m=a%m)) (fun h2=>(q1H hp0 h2:Int.tmod a m=a%m))))⟩<;>omega)
abbrev XY:Ctr Tryz.prog:=FI.c Y0
abbrev TJ:FO:=⟨11,[(.sl (.int .i64))],[(.s 1048576 (.n 9223372036854775808))],fun _=>[],fun k b z=> .c (.one (.loc k 0)),fun b z=>(fun(l:List Int)=> .rig [.dt (.pr (.sl (.int .i64)) (.nat .i64)) (.p (b0 b) (.n 0)) ((l,0))]) z⟩
theorem TK:TJ.OK Tryz.prog:=mkO hmix 6 5 Tryz.func11 rfl rfl (by decide) [] (fun _=>rfl) (fun _ _ _=>rfl) (fun _ _=>rfl) (fun _ _ _=>⟨rfl,rfl⟩) (fun(l:List Int) k b hx hp=>⟨⟨trivial,rfl⟩,j9 (show Bnd js (.p (b0 b) (.n 0)) (l,0)from⟨Bnds.h1 hx,Nat.le_refl _⟩)⟩) (fun(l:List Int) hx hp=>by
 refine bodyO.p (.nil) (kcast (by kernel_rfl) (And.intro (rfl:(l,0)=(l,0)) (rfl:5=5))))
abbrev TI:CtrO Tryz.prog:=FO.c TK
abbrev TF:FB:=⟨24,(.pr (.sl (.int .i64)) (.nat .i64)),(.p (.s 1048576 (.n 9223372036854775808)) (.n 1048576)),[(.int .i64)],[(.n 1099511627776)],fun s z=>(fun(m:Int)=>[(0:Int)<m]) z,fun tb b s z=>(fun(m:Int)=> .c (.one (.dt (.int .i64) (.n (b0 b).nb) (q7 s m)))) z,fun s z=>q6 s,fun tb b=> .p tb.l (.n (max tb.r.nb tb.l.len))⟩
theorem TG:TF.OK Tryz.prog:=mkB' hmix 35 Tryz.func24 rfl rfl (by decide) [(76,.c XY)] (fun _=>rfl) (fun _ _=>rfl) (fun _ _ _ _=>rfl) (fun(s:List Int×Nat)(m:Int) tb b hs hx hp=>⟨qa (Vi (hp _ List.mem_cons_self) (Bnds.h1 hx).int) rfl,DZ hs⟩) (fun(s:List Int×Nat)(m:Int) hs hx hp=>by
 have hx0:Int.natAbs m≤1099511627776:=hx
 have hp0:(0:Int)<m:=hp _ (List.mem_cons_self)
 have hsl:s.1.length≤1048576:=hs.1.1
 refine⟨.cond (.nil) (.h 4 9 (.ix s.2) (.nil)),kcast (by kernel_rfl) (Sp (s.1.length≤s.2) (fun h1=>And.intro ((if_pos h1).symm:s=q6 s) (((if_pos h1).symm:0=q7 s m))) (fun h2=>I (?_:((s.2+1:Nat):Int) -1=((s.2:Nat):Int)) (I (?_:s.2<s.1.length) (I (hp0:(0:Int)<m) (And.intro ((if_neg h2).symm:(s.1,s.2+1)=q6 s) (((if_neg h2).symm:(s.1.getD s.2 0)%m=q7 s m)))))))⟩<;>omega)
abbrev DE:CtrB Tryz.prog:=FB.c TG
abbrev Tx:FB:=⟨20,(.pr (.sl (.int .i64)) (.nat .i64)),(.p (.s 1048576 (.n 9223372036854775808)) (.n 1048576)),[(.int .i64)],[(.n 1099511627776)],fun s z=>(fun(m:Int)=>[(0:Int)<m]) z,fun tb b s z=>(fun(m:Int)=> .c (.one (.dt .bool .u (decide (q7 s m=m-1))))) z,fun s z=>q6 s,fun tb b=> .p tb.l (.n (max tb.r.nb tb.l.len))⟩
theorem Tz:Tx.OK Tryz.prog:=mkB' hmix 11 Tryz.func20 rfl rfl (by decide) [(24,.b DE)] (fun _=>rfl) (fun _ _=>rfl) (fun _ _ _ _=>rfl) (fun(s:List Int×Nat)(m:Int) tb b hs hx hp=>⟨qa trivial rfl,DZ hs⟩) (fun(s:List Int×Nat)(m:Int) hs hx hp=>by
 have hp0:(0:Int)<m:=hp _ (List.mem_cons_self)
 refine⟨.nil,kcast (by kernel_rfl) (I (hp0:(0:Int)<m) (And.intro (Eq.refl (q6 s)) ((Eq.refl (decide (q7 s m=m-1))))))⟩)
abbrev Tw:CtrB Tryz.prog:=FB.c Tz
abbrev q0o:FI:=⟨220,[(.sl (.nat .u32))],[(.s 1099511627776 (.n 4294967295))],fun z=>(fun(ls:List Nat)=>[∀u∈ls,u<4294967296]) z,fun b z=>(fun(ls:List Nat)=> .c (.one (.dt .mag (.n (32*(b0 b).len)) (valL ls)))) z⟩
theorem P7:q0o.OK Tryz.prog:=mkF hmix 21 Tryz.func220 rfl rfl (by decide) [] (fun(ls:List Nat) b hx hp=>qa (Cf (hp _ (List.mem_cons_self)) (Bnds.h1 hx).sl.1) rfl) (fun(ls:List Nat) hx hp=>by
 have hl0:ls.length≤1099511627776:=hx.1
 have hp0: ∀u∈ls,u<4294967296:=hp _ (List.mem_cons_self)
 refine⟨.loop [.s 3 (.nat .i64) (.n 1099511627776)] (fun(k:Nat)=>k≤ls.length∧valL (ls.take k)=valL ls) (fun(k:Nat)=>k) (fun(k:Nat)=> .cond (.h 2 5 (.i .sub) (.cond (.h 3 1 (.i .sub) (.nil)) (.h 4 2 (.mag (valL ls) 70368744177664) (.nil)))) (.h 4 2 (.mag (valL ls) 70368744177664) (.nil))),kcast (by kernel_rfl) (I (⟨Nat.le_refl _,by rw[List.take_length]⟩:ls.length≤ls.length∧valL (ls.take ls.length)=valL ls) (fun(k:Nat)(hb1:HB [.s 3 (.nat .i64) (.n 1099511627776)] k)(hC:k≤ls.length∧valL (ls.take k)=valL ls)=>have hv6:=(show k≤1099511627776 from hb1);have hk:=hC.1;Sp (0<k) (fun h2=>I (?_:1≤k) (I (?_:k-1<ls.length) (Sp (ls.getD (k-1) 0=0) (fun h3=>I (?_:1≤k) (And.intro (⟨by omega,Dr hC.1 (by omega) hC.2 (by omega)⟩:k-1≤ls.length∧valL (ls.take (k-1))=valL ls) (?_:k-1<k))) (fun h4=>I (?_:k≤ls.length) (I (zf hp0 hC.1 hC.2 (by omega):ls.take k=limbs (valL ls)) (I (q9 (by decide) (Cf hp0 hl0):lt2 (valL ls) 70368744177664) ((Eq.refl (valL ls))))))))) (fun h5=>I (?_:k≤ls.length) (I (zf hp0 hC.1 hC.2 (by omega):ls.take k=limbs (valL ls)) (I (q9 (by decide) (Cf hp0 hl0):lt2 (valL ls) 70368744177664) ((Eq.refl (valL ls))))))))⟩<;>omega)
abbrev Av:Ctr Tryz.prog:=FI.c P7
abbrev P6(b:List Bd)(ls:List Nat):WV:= .c (.one (.dt .mag (.n (32*(b0 b).len)) (valL ls)))
theorem RF(ls:List Nat)(hx:Bnds [(.sl (.nat .u32))] [(.s 1099511627776 (.n 4294967295))] ls)(hp: ∀c0∈([∀u∈ls,u<4294967296]:List Prop),c0):Sig Tryz.prog 220 (argsE [(.sl (.nat .u32))] ls) (P6 [(.s 1099511627776 (.n 4294967295))] ls).exp:=P7.sig ls hx hp
theorem RE(b:List Bd)(x:Nat)(hx:Bnds [.mag] b x)(hp: ∀p∈([]:List Prop),p):(WV.c (.one (.dt .mag (b0 b) x))).ok:=qa (Bnds.h1 hx) rfl
theorem P5(x:Nat)(hx:Bnds [.mag] [.n 1099511627776] x)(hp: ∀p∈([]:List Prop),p):Sig Tryz.prog 220 (argsE [.mag] x) (WV.c (.one (.dt .mag (.n 1099511627776) x))).exp:=by
 have h:=RF (limbs x) ⟨Nat.le_trans (qg (Nat.le_of_lt hx)) (by decide),(Bnd.limbs hx).2⟩ (by intro p hp;simp only[List.mem_cons,List.not_mem_nil,or_false]at hp;subst hp;exact qF x)
 unfold P6 at h;rw[qm,←CF]at h;exact h
def Aa:Ctr Tryz.prog:=⟨220,[.mag],[.n 1099511627776],fun z=>[],fun b z=> .c (.one (.dt .mag (b0 b) z)),fun z hx hp=>P5 z hx hp,fun _ _=>rfl,fun b z hx hp=>RE b z hx hp⟩
abbrev q16:FI:=⟨212,[.mag,.mag],[(.n 1099511627776),(.n 1099511627776)],fun _=>[],fun b z=>(fun(x:Nat)(y:Nat)=> .c (.one (.dt .mag (.n (max (b0 b).nb (b1 b).nb+1)) (x+y)))) z.1 z.2⟩
theorem q17:q16.OK Tryz.prog:=mkF hmix 58 Tryz.func212 rfl rfl (by decide) [] (fun(x:Nat)(y:Nat) b hx hp=>qa (DQ (Bnds.h2 hx).1.mag (Bnds.h2 hx).2.mag) rfl) (fun(x:Nat)(y:Nat) hx hp=>by
 have hx0:lt2 x 1099511627776:=hx.1
 have hl0:(limbs x).length≤34359738369:=qg (Nat.le_of_lt hx0)
 have hx1:lt2 y 1099511627776:=hx.2
 have hl1:(limbs y).length≤34359738369:=qg (Nat.le_of_lt hx1)
 refine⟨.cond (.h 3 3 (.mk (.arr (.nat .u32) (.n 4294967295))) (.loop [.s 22 (.nat .i64) (.n 34359738369),.s 6 (.nat .u64) (.n 1),.a 19 (.nat .u32) (.n 4294967295)] (fun((i,c,out):Nat×Nat×List Nat)=>AddI y x i c out) (fun((i,c,out):Nat×Nat×List Nat)=>(limbs y).length-i) (fun((i,c,out):Nat×Nat×List Nat)=> .cond (.nil) (.pre 15 (.frz 19 true [5]) (.h 15 1 (.c Av) (.nil)))))) (.h 3 3 (.mk (.arr (.nat .u32) (.n 4294967295))) (.loop [.s 22 (.nat .i64) (.n 34359738369),.s 6 (.nat .u64) (.n 1),.a 19 (.nat .u32) (.n 4294967295)] (fun((i,c,out):Nat×Nat×List Nat)=>AddI x y i c out) (fun((i,c,out):Nat×Nat×List Nat)=>(limbs x).length-i) (fun((i,c,out):Nat×Nat×List Nat)=> .cond (.nil) (.pre 15 (.frz 19 true [5]) (.h 15 1 (.c Av) (.nil)))))),kcast (by kernel_rfl) (Sp ((limbs x).length<(limbs y).length) (fun h1=>I (?_:((limbs y).length)+1=((limbs y).length)+1) (I (AddI.start y x:AddI y x 0 0 (List.replicate (((limbs y).length)+1) (0:Nat))) (fun(i:Nat)(c:Nat)(out:List Nat)(hb2:HB [.s 22 (.nat .i64) (.n 34359738369),.s 6 (.nat .u64) (.n 1),.a 19 (.nat .u32) (.n 4294967295)] (i,c,out))(hI:AddI y x i c out)=>have hv7:=(show i≤34359738369 from hb2.1);have hv8:=(show c≤1 from hb2.2.1);have hv9:=(show∀u∈out,u≤4294967295 from hb2.2.2);have hIl:=hI.hl;have hIi:=hI.hi;have hIc:=hI.hc;Sp (i<(limbs y).length) (fun h3=>I (?_:i<(limbs y).length) (Sp (i<(limbs x).length) (fun h4=>I (?_:i<(limbs x).length) (I (?_:i<((limbs y).length)+1) (I (?_:i<out.length) (I (show(i+1)≤34359738369 by omega:Bnd (.nat .i64) (.n 34359738369) (i+1)) (And.intro (hI.step (by omega) (by first|rfl|rw[qr (l:=limbs x) (by omega),Nat.add_zero]):AddI y x (i+1) (((c+((limbs y).getD i 0))+((limbs x).getD i 0))/2^32) (out.set i (((c+((limbs y).getD i 0))+((limbs x).getD i 0))%4294967296))) (?_:(limbs y).length-(i+1)<(limbs y).length-i)))))) (fun h5=>I (?_:i<((limbs y).length)+1) (I (?_:i<out.length) (I (show(i+1)≤34359738369 by omega:Bnd (.nat .i64) (.n 34359738369) (i+1)) (And.intro (hI.step (by omega) (by first|rfl|rw[qr (l:=limbs x) (by omega),Nat.add_zero]):AddI y x (i+1) ((c+((limbs y).getD i 0))/2^32) (out.set i ((c+((limbs y).getD i 0))%4294967296))) (?_:(limbs y).length-(i+1)<(limbs y).length-i))))))) (fun h6=>have hF:=hI.fin' (by omega) (by omega);I (?_:(limbs y).length<((limbs y).length)+1) (I (?_:(limbs y).length<out.length) (I (Fl (by omega):((limbs y).length)+1=(out.set ((limbs y).length) c).length) (I (hF.2: ∀u∈out.set ((limbs y).length) c,u<4294967296) ((by rw[hF.1]<;>omega:valL (out.set ((limbs y).length) c)=x+y))))))))) (fun h10=>I (?_:((limbs x).length)+1=((limbs x).length)+1) (I (AddI.start x y:AddI x y 0 0 (List.replicate (((limbs x).length)+1) (0:Nat))) (fun(i:Nat)(c:Nat)(out:List Nat)(hb11:HB [.s 22 (.nat .i64) (.n 34359738369),.s 6 (.nat .u64) (.n 1),.a 19 (.nat .u32) (.n 4294967295)] (i,c,out))(hI:AddI x y i c out)=>have hv16:=(show i≤34359738369 from hb11.1);have hv17:=(show c≤1 from hb11.2.1);have hv18:=(show∀u∈out,u≤4294967295 from hb11.2.2);have hIl:=hI.hl;have hIi:=hI.hi;have hIc:=hI.hc;Sp (i<(limbs x).length) (fun h12=>I (?_:i<(limbs x).length) (Sp (i<(limbs y).length) (fun h13=>I (?_:i<(limbs y).length) (I (?_:i<((limbs x).length)+1) (I (?_:i<out.length) (I (show(i+1)≤34359738369 by omega:Bnd (.nat .i64) (.n 34359738369) (i+1)) (And.intro (hI.step (by omega) (by first|rfl|rw[qr (l:=limbs y) (by omega),Nat.add_zero]):AddI x y (i+1) (((c+((limbs x).getD i 0))+((limbs y).getD i 0))/2^32) (out.set i (((c+((limbs x).getD i 0))+((limbs y).getD i 0))%4294967296))) (?_:(limbs x).length-(i+1)<(limbs x).length-i)))))) (fun h14=>I (?_:i<((limbs x).length)+1) (I (?_:i<out.length) (I (show(i+1)≤34359738369 by omega:Bnd (.nat .i64) (.n 34359738369) (i+1)) (And.intro (hI.step (by omega) (by first|rfl|rw[qr (l:=limbs y) (by omega),Nat.add_zero]):AddI x y (i+1) ((c+((limbs x).getD i 0))/2^32) (out.set i ((c+((limbs x).getD i 0))%4294967296))) (?_:(limbs x).length-(i+1)<(limbs x).length-i))))))) (fun h15=>have hF:=hI.fin' (by omega) (by omega);I (?_:(limbs x).length<((limbs x).length)+1) (I (?_:(limbs x).length<out.length) (I (Fl (by omega):((limbs x).length)+1=(out.set ((limbs x).length) c).length) (I (hF.2: ∀u∈out.set ((limbs x).length) c,u<4294967296) ((by rw[hF.1]<;>omega:valL (out.set ((limbs x).length) c)=x+y))))))))))⟩<;>omega)
abbrev add_c:Ctr Tryz.prog:=FI.c q17
abbrev q1P:FI:=⟨144,[.mag,.mag],[(.n 1099511627776),(.n 1099511627776)],fun _=>[],fun b z=>(fun(x:Nat)(y:Nat)=> .c (.one (.dt .mag (.n ((b0 b).nb+(b1 b).nb)) (x*y)))) z.1 z.2⟩
theorem q1Q:q1P.OK Tryz.prog:=mkF hmix 69 Tryz.func144 rfl rfl (by decide) [] (fun(x:Nat)(y:Nat) b hx hp=>qa (DR (Bnds.h2 hx).1.mag (Bnds.h2 hx).2.mag) rfl) (fun(x:Nat)(y:Nat) hx hp=>by
 have hx0:lt2 x 1099511627776:=hx.1
 have hl0:(limbs x).length≤34359738369:=qg (Nat.le_of_lt hx0)
 have hx1:lt2 y 1099511627776:=hx.2
 have hl1:(limbs y).length≤34359738369:=qg (Nat.le_of_lt hx1)
 refine⟨.h 1 5 (.mk (.arr (.nat .u32) (.n 4294967295))) (.loop [.s 19 (.nat .i64) (.n 34359738369),.a 16 (.nat .u32) (.n 4294967295)] (fun((i,out):Nat×List Nat)=>MulI x y i out) (fun((i,out):Nat×List Nat)=>(limbs x).length-i) (fun((i,out):Nat×List Nat)=> .cond (.cond (.nil) (.loop [.s 28 (.nat .i64) (.n 34359738369),.s 8 (.nat .u64) (.n 4294967295),.a 16 (.nat .u32) (.n 4294967295)] (fun((j,c,out2):Nat×Nat×List Nat)=>MulJ x y i ((limbs x).getD i 0) j c out out2) (fun((j,c,out2):Nat×Nat×List Nat)=>(limbs y).length-j) (fun((j,c,out2):Nat×Nat×List Nat)=> .nil))) (.pre 16 (.frz 16 true [5]) (.h 16 1 (.c Av) (.nil))))),kcast (by kernel_rfl) (I (?_:((limbs x).length)+((limbs y).length)=((limbs x).length)+((limbs y).length)) (I (MulI.start x y:MulI x y 0 (List.replicate (((limbs x).length)+((limbs y).length)) (0:Nat))) (fun(i:Nat)(out:List Nat)(hb1:HB [.s 19 (.nat .i64) (.n 34359738369),.a 16 (.nat .u32) (.n 4294967295)] (i,out))(hM:MulI x y i out)=>have hv12:=(show i≤34359738369 from hb1.1);have hv13:=(show∀u∈out,u≤4294967295 from hb1.2);have hMl:=hM.hl;have hMi:=hM.hi;Sp (i<(limbs x).length) (fun h2=>I (?_:i<(limbs x).length) (Sp ((limbs x).getD i 0=0) (fun h3=>I (show(i+1)≤34359738369 by omega:Bnd (.nat .i64) (.n 34359738369) (i+1)) (And.intro (hM.skip (by omega) (by omega):MulI x y (i+1) out) (?_:(limbs x).length-(i+1)<(limbs x).length-i))) (fun h4=>I (MulJ.start hM:MulJ x y i ((limbs x).getD i 0) 0 0 out out) (fun(j:Nat)(c:Nat)(out2:List Nat)(hb5:HB [.s 28 (.nat .i64) (.n 34359738369),.s 8 (.nat .u64) (.n 4294967295),.a 16 (.nat .u32) (.n 4294967295)] (j,c,out2))(hJ:MulJ x y i ((limbs x).getD i 0) j c out out2)=>have hv8:=(show j≤34359738369 from hb5.1);have hv9:=(show c≤4294967295 from hb5.2.1);have hv10:=(show∀u∈out2,u≤4294967295 from hb5.2.2);have hJl:=hJ.hl;have hJj:=hJ.hj;have hJc:=hJ.hc;Sp (j<(limbs y).length) (fun h6=>I (?_:j<(limbs y).length) (I (?_:i+j<((limbs x).length)+((limbs y).length)) (I (?_:i+j<out2.length) (I (?_:i+j<((limbs x).length)+((limbs y).length)) (I (?_:i+j<out2.length) (I (show(j+1)≤34359738369 by omega:Bnd (.nat .i64) (.n 34359738369) (j+1)) (And.intro ((hJ.step (by omega) (by omega) (q8 x i) rfl).1:MulJ x y i ((limbs x).getD i 0) (j+1) ((c+((((limbs x).getD i 0)*((limbs y).getD j 0))+(out2.getD (i+j) 0)))/2^32) out (out2.set (i+j) ((c+((((limbs x).getD i 0)*((limbs y).getD j 0))+(out2.getD (i+j) 0)))%4294967296))) (?_:(limbs y).length-(j+1)<(limbs y).length-j)))))))) (fun h7=>I (?_:i+((limbs y).length)<((limbs x).length)+((limbs y).length)) (I (?_:i+((limbs y).length)<out2.length) (I (show(i+1)≤34359738369 by omega:Bnd (.nat .i64) (.n 34359738369) (i+1)) (And.intro (MulJ.fin' hM (by omega) hJ (by omega):MulI x y (i+1) (out2.set (i+((limbs y).length)) c)) (?_:(limbs x).length-(i+1)<(limbs x).length-i))))))))) (fun h11=>I (?_:((limbs x).length)+((limbs y).length)=out.length) (have hF:=hM.fin' (by omega);I (hF.2: ∀u∈out,u<4294967296) ((hF.1:valL out=x*y)))))))⟩<;>omega)
abbrev mul_c:Ctr Tryz.prog:=FI.c q1Q
abbrev q1a:FI:=⟨208,[.mag,.mag],[(.n 1099511627776),(.n 1099511627776)],fun _=>[],fun b z=>(fun(x:Nat)(y:Nat)=> .c (.one (.dt (.int .i64) (.n 1) (cmpN x y)))) z.1 z.2⟩
theorem q1b:q1a.OK Tryz.prog:=mkF hmix 45 Tryz.func208 rfl rfl (by decide) [(220,.c Aa)] (fun(x:Nat)(y:Nat) b hx hp=>qa (KD x y) rfl) (fun(x:Nat)(y:Nat) hx hp=>by
 have hx0:lt2 x 1099511627776:=hx.1
 have hl0:(limbs x).length≤34359738369:=qg (Nat.le_of_lt hx0)
 have hx1:lt2 y 1099511627776:=hx.2
 have hl1:(limbs y).length≤34359738369:=qg (Nat.le_of_lt hx1)
 refine⟨.cond (.nil) (.loop [.s 5 (.int .i64) (.n 68719476736)] (fun(z:Int)=>CmpI x y z) (fun(z:Int)=>(z+1).toNat) (fun(z:Int)=> .cond (.h 9 2 (.ix z.toNat) (.h 9 6 (.ix z.toNat) (.cond (.h 10 2 (.ix z.toNat) (.h 10 6 (.ix z.toNat) (.nil))) (.nil)))) (.nil))),kcast (by kernel_rfl) (Sp ((limbs x).length≠(limbs y).length) (fun h1=>Sp ((limbs x).length<(limbs y).length) (fun h2=>(?_:(-1)=cmpN x y)) (fun h3=>(?_:1=cmpN x y))) (fun h4=>I (CmpI.start (by omega):CmpI x y ((((limbs x).length:Nat):Int) -1)) (fun(z:Int)(hb5:HB [.s 5 (.int .i64) (.n 68719476736)] z)(hC:CmpI x y z)=>have hv12:=(show Int.natAbs z≤68719476736 from hb5);have hC0:=hC.h0;have hC1:=hC.h1;Sp (0≤z) (fun h6=>I (?_:z=((z.toNat:Nat):Int)) (I (?_:z.toNat<(limbs x).length) (I (?_:z=((z.toNat:Nat):Int)) (I (?_:z.toNat<(limbs y).length) (Sp ((limbs x).getD z.toNat 0≠(limbs y).getD z.toNat 0) (fun h7=>I (?_:z=((z.toNat:Nat):Int)) (I (?_:z.toNat<(limbs x).length) (I (?_:z=((z.toNat:Nat):Int)) (I (?_:z.toNat<(limbs y).length) (Sp ((limbs x).getD z.toNat 0<(limbs y).getD z.toNat 0) (fun h8=>(?_:(-1)=cmpN x y)) (fun h9=>(?_:1=cmpN x y))))))) (fun h10=>I (show Int.natAbs (z-1)≤68719476736 by omega:Bnd (.int .i64) (.n 68719476736) (z-1)) (And.intro ((hC.at (by omega) (by omega)).1 (by omega):CmpI x y (z-1)) (?_:((z-1)+1).toNat<(z+1).toNat)))))))) (fun h11=>((hC.fin (by omega)).symm:0=cmpN x y)))))⟩<;>first|omega|(first|exact(Ix (by omega)).symm|exact((hC.at (by omega) (by omega)).2.1 (by omega)).symm)|(first|exact(Iy (by omega)).symm|exact((hC.at (by omega) (by omega)).2.2 (by omega)).symm))
abbrev LU:Ctr Tryz.prog:=FI.c q1b
abbrev q2c:FI:=⟨213,[.mag,.mag],[(.n 1099511627776),(.n 1099511627776)],fun _=>[],fun b z=>(fun(x:Nat)(y:Nat)=> .tup [.one (.dt .mag (b0 b) (x-y)),.one (.dt (.int .i64) (.n 7) (subC x y))]) z.1 z.2⟩
theorem q2d:q2c.OK Tryz.prog:=mkF hmix 54 Tryz.func213 rfl rfl (by decide) [(208,.c LU),(220,.c Aa)] (fun(x:Nat)(y:Nat) b hx hp=>qu (qa (Bnd.magLe (Bnds.h2 hx).1 (Nat.sub_le _ _)) rfl) (qu (qa (P3 x y) rfl) jh)) (fun(x:Nat)(y:Nat) hx hp=>by
 have hx0:lt2 x 1099511627776:=hx.1
 have hl0:(limbs x).length≤34359738369:=qg (Nat.le_of_lt hx0)
 have hx1:lt2 y 1099511627776:=hx.2
 have hl1:(limbs y).length≤34359738369:=qg (Nat.le_of_lt hx1)
 refine⟨.cond (.nil) (.h 4 2 (.mk (.arr (.nat .u32) (.n 4294967295))) (.loop [.s 23 (.nat .i64) (.n 34359738369),.s 7 (.nat .u64) (.n 1),.a 20 (.nat .u32) (.n 4294967295)] (fun((i,c,out):Nat×Nat×List Nat)=>SubI x y i c out) (fun((i,c,out):Nat×Nat×List Nat)=>(limbs x).length-i) (fun((i,c,out):Nat×Nat×List Nat)=> .cond (.cond (.h 12 3 (.i (.n (dif ((limbs x).getD i 0) (c+((limbs y).getD i 0))) 18446744073709551615)) (.nil)) (.h 12 3 (.i (.n (dif ((limbs x).getD i 0) c) 18446744073709551615)) (.nil))) (.pre 16 (.frz 20 true [6]) (.h 16 1 (.c Av) (.nil)))))),kcast (by kernel_rfl) (Sp (cmpN x y<0) (fun h1=>And.intro (by have:=jf.1 (show cmpN x y<0 by assumption);omega:0=x-y) ((if_pos (jf.1 (by assumption))).symm:7=subC x y)) (fun h2=>have hp0:=(show y≤x from Nat.le_of_not_lt (mt jf.2 (by assumption)));have hlen:=jZ hp0;I (?_:(limbs x).length=(limbs x).length) (I (SubI.start x y:SubI x y 0 0 (List.replicate ((limbs x).length) (0:Nat))) (fun(i:Nat)(c:Nat)(out:List Nat)(hb3:HB [.s 23 (.nat .i64) (.n 34359738369),.s 7 (.nat .u64) (.n 1),.a 20 (.nat .u32) (.n 4294967295)] (i,c,out))(hI:SubI x y i c out)=>have hv8:=(show i≤34359738369 from hb3.1);have hv9:=(show c≤1 from hb3.2.1);have hv10:=(show∀u∈out,u≤4294967295 from hb3.2.2);have hIl:=hI.hl;have hIi:=hI.hi;have hIc:=hI.hc;have hg1:=q8 x i;have hg2:=q8 y i;Sp (i<(limbs x).length) (fun h4=>I (?_:i<(limbs x).length) (Sp (i<(limbs y).length) (fun h5=>I (?_:i<(limbs y).length) (I (v8 (by first|omega|exact Nat.lt_succ_of_le (jN _ _)) (by omega):qw .sub .u64 (((limbs x).getD i 0:Nat):Int) ((c+((limbs y).getD i 0):Nat):Int) ((dif ((limbs x).getD i 0) (c+((limbs y).getD i 0)):Nat):Int)) (I (jN _ _:dif ((limbs x).getD i 0) (c+((limbs y).getD i 0))≤18446744073709551615) (I (?_:i<(limbs x).length) (I (?_:i<out.length) (I (show(i+1)≤34359738369 by omega:Bnd (.nat .i64) (.n 34359738369) (i+1)) (And.intro (hI.step (by omega) (by first|rfl|rw[qr (l:=limbs y) (by omega),Nat.add_zero]):SubI x y (i+1) ((dif ((limbs x).getD i 0) (c+((limbs y).getD i 0)))/2^63) (out.set i ((dif ((limbs x).getD i 0) (c+((limbs y).getD i 0)))%4294967296))) (?_:(limbs x).length-(i+1)<(limbs x).length-i)))))))) (fun h6=>I (v8 (by first|omega|exact Nat.lt_succ_of_le (jN _ _)) (by omega):qw .sub .u64 (((limbs x).getD i 0:Nat):Int) (c:Int) ((dif ((limbs x).getD i 0) c:Nat):Int)) (I (jN _ _:dif ((limbs x).getD i 0) c≤18446744073709551615) (I (?_:i<(limbs x).length) (I (?_:i<out.length) (I (show(i+1)≤34359738369 by omega:Bnd (.nat .i64) (.n 34359738369) (i+1)) (And.intro (hI.step (by omega) (by first|rfl|rw[qr (l:=limbs y) (by omega),Nat.add_zero]):SubI x y (i+1) ((dif ((limbs x).getD i 0) c)/2^63) (out.set i ((dif ((limbs x).getD i 0) c)%4294967296))) (?_:(limbs x).length-(i+1)<(limbs x).length-i))))))))) (fun h7=>I (?_:(limbs x).length=out.length) (have hF:=hI.fin' (by omega) hp0;I (hF.2: ∀u∈out,u<4294967296) (And.intro (hF.1:valL out=x-y) ((if_neg (by omega)).symm:0=subC x y))))))))⟩<;>omega)
abbrev q2b:Ctr Tryz.prog:=FI.c q2d
abbrev WJ:FI:=⟨263,[.mag,(.nat .u32)],[(.n 1099511627776),(.n 4294967295)],fun z=>(fun(x:Nat)(u:Nat)=>[0<u]) z.1 z.2,fun b z=>(fun(x:Nat)(u:Nat)=> .tup [.one (.dt .mag (b0 b) (x/u)),.one (.dt (.nat .u32) (b1 b) (x%u))]) z.1 z.2⟩
theorem WK:WJ.OK Tryz.prog:=mkF hmix 43 Tryz.func263 rfl rfl (by decide) [] (fun(x:Nat)(u:Nat) b hx hp=>qu (qa ((Bnds.h2 hx).1.magLe (Nat.div_le_self _ _)) rfl) (qu (qa ((Bnds.h2 hx).2.natLe (Nat.le_of_lt (Nat.mod_lt _ (hp _ (List.mem_cons_self))))) rfl) jh)) (fun(x:Nat)(u:Nat) hx hp=>by
 have hx0:lt2 x 1099511627776:=hx.1
 have hl0:(limbs x).length≤34359738369:=qg (Nat.le_of_lt hx0)
 have hx1:u≤4294967295:=hx.2
 have hp0:0<u:=hp _ (List.mem_cons_self)
 refine⟨.h 1 2 (.mk (.arr (.nat .u32) (.n 4294967295))) (.loop [.s 8 (.int .i64) (.n 34359738370),.s 7 (.nat .u64) (.n 4294967295),.a 11 (.nat .u32) (.n 4294967295)] (fun((z,r,out):Int×Nat×List Nat)=>SmallZ x u z r out) (fun((z,r,out):Int×Nat×List Nat)=>(z+1).toNat) (fun((z,r,out):Int×Nat×List Nat)=> .cond (.h 6 4 (.ix z.toNat) (.h 6 7 (.i (.n ((r*2^32)+((limbs x).getD z.toNat 0)) 18446744073709551615)) (.h 7 7 (.ix z.toNat) (.nil)))) (.pre 9 (.frz 11 true [6,7]) (.h 9 1 (.c Av) (.nil))))),kcast (by kernel_rfl) (I (?_:(limbs x).length=(limbs x).length) (I (SmallZ.start hp0:SmallZ x u ((((limbs x).length:Nat):Int) -1) 0 (List.replicate ((limbs x).length) (0:Nat))) (fun(z:Int)(r:Nat)(out:List Nat)(hb1:HB [.s 8 (.int .i64) (.n 34359738370),.s 7 (.nat .u64) (.n 4294967295),.a 11 (.nat .u32) (.n 4294967295)] (z,r,out))(hI:SmallZ x u z r out)=>have hv4:=(show Int.natAbs z≤34359738370 from hb1.1);have hv5:=(show r≤4294967295 from hb1.2.1);have hv6:=(show∀u∈out,u≤4294967295 from hb1.2.2);have hB:=hI.b;Sp (0≤z) (fun h2=>I (?_:z=((z.toNat:Nat):Int)) (I (?_:z.toNat<(limbs x).length) (I (AD _ 32 rfl (q8 _ _) (by have:=q8 x z.toNat;omega):qw .or .u64 ((r*2^32:Nat):Int) (((limbs x).getD z.toNat 0:Nat):Int) (((r*2^32)+((limbs x).getD z.toNat 0):Nat):Int)) (I (by have:=q8 x z.toNat;omega:(r*2^32)+((limbs x).getD z.toNat 0)≤18446744073709551615) (I (?_:0<u) (I (?_:z=((z.toNat:Nat):Int)) (I (?_:z.toNat<(limbs x).length) (I (?_:z.toNat<out.length) (I (?_:0<u) (I (show Int.natAbs (z-1)≤34359738370 by omega:Bnd (.int .i64) (.n 34359738370) (z-1)) (And.intro (hI.step (by omega) rfl:SmallZ x u (z-1) (((r*2^32)+((limbs x).getD z.toNat 0))%u) (out.set z.toNat ((((r*2^32)+((limbs x).getD z.toNat 0))/u)%4294967296))) (?_:((z-1)+1).toNat<(z+1).toNat)))))))))))) (fun h3=>I (?_:(limbs x).length=out.length) (have hF:=hI.fin (by omega);I (hF.2.2: ∀u∈out,u<4294967296) (And.intro (hF.1:valL out=x/u) (hF.2.1:r=x%u)))))))⟩<;>omega)
abbrev WI:Ctr Tryz.prog:=FI.c WK
abbrev Vl:FI:=⟨262,[.mag],[(.n 1099511627776)],fun z=>(fun(x:Nat)=>[(limbs x).length≤2]) z,fun b z=>(fun(x:Nat)=> .c (.one (.dt (.nat .u64) (.n 18446744073709551615) x))) z⟩
theorem Vm:Vl.OK Tryz.prog:=mkF hmix 21 Tryz.func262 rfl rfl (by decide) [] (fun(x:Nat) b hx hp=>qa (Nat.le_of_lt_succ (Ja (hp _ (List.mem_cons_self)))) rfl) (fun(x:Nat) hx hp=>by
 have hx0:lt2 x 1099511627776:=hx
 have hl0:(limbs x).length≤34359738369:=qg (Nat.le_of_lt hx0)
 have hp0:(limbs x).length≤2:=hp _ (List.mem_cons_self)
 refine⟨.loop [.s 4 (.int .i64) (.n 68719476736),.s 3 (.nat .u64) (.n 18446744073709551615)] (fun((z,v):Int×Nat)=>WordZ x z v) (fun((z,v):Int×Nat)=>(z+1).toNat) (fun((z,v):Int×Nat)=> .cond (.h 5 1 (.i (.n (v*2^32) 18446744073709551615)) (.h 5 4 (.ix z.toNat) (.h 5 7 (.i (.n ((v*2^32)+((limbs x).getD z.toNat 0)) 18446744073709551615)) (.nil)))) (.nil)),kcast (by kernel_rfl) (I (WordZ.start x:WordZ x ((((limbs x).length:Nat):Int) -1) 0) (fun(z:Int)(v:Nat)(hb1:HB [.s 4 (.int .i64) (.n 68719476736),.s 3 (.nat .u64) (.n 18446744073709551615)] (z,v))(hI:WordZ x z v)=>have hv4:=(show Int.natAbs z≤68719476736 from hb1.1);have hv5:=(show v≤18446744073709551615 from hb1.2);have hB0:=hI.h0;have hB1:=hI.h1;Sp (0≤z) (fun h2=>have hw:=hI.lt hp0 (by omega);I (Fa v 32 (by omega) (by omega):qw .shl .u64 (v:Int) 32 ((v*2^32:Nat):Int)) (I (?_:v*2^32≤18446744073709551615) (I (?_:z=((z.toNat:Nat):Int)) (I (?_:z.toNat<(limbs x).length) (I (AD _ 32 rfl (q8 _ _) (by have:=q8 x z.toNat;omega):qw .or .u64 ((v*2^32:Nat):Int) (((limbs x).getD z.toNat 0:Nat):Int) (((v*2^32)+((limbs x).getD z.toNat 0):Nat):Int)) (I (by have:=q8 x z.toNat;omega:(v*2^32)+((limbs x).getD z.toNat 0)≤18446744073709551615) (I (show Int.natAbs (z-1)≤68719476736 by omega:Bnd (.int .i64) (.n 68719476736) (z-1)) (And.intro (hI.step (by omega):WordZ x (z-1) ((v*2^32)+((limbs x).getD z.toNat 0))) (?_:((z-1)+1).toNat<(z+1).toNat))))))))) (fun h3=>(hI.fin (by omega):v=x))))⟩<;>omega)
abbrev Vk:Ctr Tryz.prog:=FI.c Vm
abbrev Wo:FI:=⟨215,[.mag],[(.n 1099511627776)],fun z=>(fun(x:Nat)=>[(limbs x).length≤2]) z,fun b z=>(fun(x:Nat)=> .c (.one (.dt (.nat .u64) (.n 18446744073709551615) x))) z⟩
theorem Wp:Wo.OK Tryz.prog:=mkF hmix 21 Tryz.func215 rfl rfl (by decide) [] (fun(x:Nat) b hx hp=>qa (Nat.le_of_lt_succ (Ja (hp _ (List.mem_cons_self)))) rfl) (fun(x:Nat) hx hp=>by
 have hx0:lt2 x 1099511627776:=hx
 have hl0:(limbs x).length≤34359738369:=qg (Nat.le_of_lt hx0)
 have hp0:(limbs x).length≤2:=hp _ (List.mem_cons_self)
 refine⟨.loop [.s 4 (.int .i64) (.n 68719476736),.s 3 (.nat .u64) (.n 18446744073709551615)] (fun((z,v):Int×Nat)=>WordZ x z v) (fun((z,v):Int×Nat)=>(z+1).toNat) (fun((z,v):Int×Nat)=> .cond (.h 5 1 (.i (.n (v*2^32) 18446744073709551615)) (.h 5 4 (.ix z.toNat) (.h 5 7 (.i (.n ((v*2^32)+((limbs x).getD z.toNat 0)) 18446744073709551615)) (.nil)))) (.nil)),kcast (by kernel_rfl) (I (WordZ.start x:WordZ x ((((limbs x).length:Nat):Int) -1) 0) (fun(z:Int)(v:Nat)(hb1:HB [.s 4 (.int .i64) (.n 68719476736),.s 3 (.nat .u64) (.n 18446744073709551615)] (z,v))(hI:WordZ x z v)=>have hv4:=(show Int.natAbs z≤68719476736 from hb1.1);have hv5:=(show v≤18446744073709551615 from hb1.2);have hB0:=hI.h0;have hB1:=hI.h1;Sp (0≤z) (fun h2=>have hw:=hI.lt hp0 (by omega);I (Fa v 32 (by omega) (by omega):qw .shl .u64 (v:Int) 32 ((v*2^32:Nat):Int)) (I (?_:v*2^32≤18446744073709551615) (I (?_:z=((z.toNat:Nat):Int)) (I (?_:z.toNat<(limbs x).length) (I (AD _ 32 rfl (q8 _ _) (by have:=q8 x z.toNat;omega):qw .or .u64 ((v*2^32:Nat):Int) (((limbs x).getD z.toNat 0:Nat):Int) (((v*2^32)+((limbs x).getD z.toNat 0):Nat):Int)) (I (by have:=q8 x z.toNat;omega:(v*2^32)+((limbs x).getD z.toNat 0)≤18446744073709551615) (I (show Int.natAbs (z-1)≤68719476736 by omega:Bnd (.int .i64) (.n 68719476736) (z-1)) (And.intro (hI.step (by omega):WordZ x (z-1) ((v*2^32)+((limbs x).getD z.toNat 0))) (?_:((z-1)+1).toNat<(z+1).toNat))))))))) (fun h3=>(hI.fin (by omega):v=x))))⟩<;>omega)
abbrev Lm:Ctr Tryz.prog:=FI.c Wp
abbrev VM:FO:=⟨265,[.mag,(.nat .i64)],[(.n 1099511627776),(.n 32)],fun _=>[],fun k b z=>(fun(x:Nat)(s:Nat)=> .c (.one (.gs k ((limbs x).length+1) 1 ((b0 b).nb/32+2)))) z.1 z.2,fun b z=>(fun(x:Nat)(s:Nat)=> .gro (.nat .u32) (.n 4294967295) (padL (x*2^s) ((limbs x).length+1))) z.1 z.2⟩
theorem Li:VM.OK Tryz.prog:=mkO hmix 41 12 Tryz.func265 rfl rfl (by decide) [] (fun _=>rfl) (fun _ _ _=>rfl) (fun _ _=>rfl) (fun _ _ _=>⟨rfl,rfl⟩) (fun(x:Nat)(s:Nat) k b hx hp=>⟨qa (Nat.succ_le_succ (L3 (Bnds.h2 hx).1)) rfl,Jm _ _⟩) (fun(x:Nat)(s:Nat) hx hp=>by
 have hx0:lt2 x 1099511627776:=hx.1
 have hl0:(limbs x).length≤34359738369:=qg (Nat.le_of_lt hx0)
 have hx1:s≤32:=hx.2
 refine bodyO.g (.h 1 3 (.mk (.gro (.nat .u32) (.n 4294967295))) (.loop [.s 15 (.nat .i64) (.n 34359738369),.s 6 (.nat .u64) (.n 4294967295),.bk 12 (.nat .u32) (.n 4294967295)] (fun((i,c,out):Nat×Nat×List Nat)=>RaiseI x s i c out) (fun((i,c,out):Nat×Nat×List Nat)=>(limbs x).length-i) (fun((i,c,out):Nat×Nat×List Nat)=> .cond (.h 6 4 (.i (.n (((limbs x).getD i 0)*2^s) 18446744073709551615)) (.h 6 5 (.i (.n (c+(((limbs x).getD i 0)*2^s)) 18446744073709551615)) (.nil))) (.nil)))) (kcast (by kernel_rfl) (I (?_:((limbs x).length)+1=((limbs x).length)+1) (I (RaiseI.start x s:RaiseI x s 0 0 (List.replicate (((limbs x).length)+1) (0:Nat))) (fun(i:Nat)(c:Nat)(out:List Nat)(hb1:HB [.s 15 (.nat .i64) (.n 34359738369),.s 6 (.nat .u64) (.n 4294967295),.bk 12 (.nat .u32) (.n 4294967295)] (i,c,out))(hI:RaiseI x s i c out)=>have hv4:=(show i≤34359738369 from hb1.1);have hv5:=(show c≤4294967295 from hb1.2.1);have hv6:=(show∀u∈out,u≤4294967295 from hb1.2.2);have hIl:=hI.hl;have hIi:=hI.hi;have hIc:=hI.hc;have hg1:=q8 x i;have hbd:=Hx hg1 hx1 hIc;Sp (i<(limbs x).length) (fun h2=>I (?_:i<(limbs x).length) (I (Fa _ _ (by omega) (AX (by omega) (by omega)):qw .shl .u64 (((limbs x).getD i 0:Nat):Int) (s:Int) ((((limbs x).getD i 0)*2^s:Nat):Int)) (I (Nat.le_of_lt_succ (AX (by omega) (by omega)):((limbs x).getD i 0)*2^s≤18446744073709551615) (I (F9 _ _ rfl hIc hbd:qw .or .u64 (c:Int) ((((limbs x).getD i 0)*2^s:Nat):Int) ((c+(((limbs x).getD i 0)*2^s):Nat):Int)) (I (Nat.le_of_lt_succ hbd:c+(((limbs x).getD i 0)*2^s)≤18446744073709551615) (I (?_:i<((limbs x).length)+1) (I (?_:i<out.length) (I (show(i+1)≤34359738369 by omega:Bnd (.nat .i64) (.n 34359738369) (i+1)) (And.intro (hI.step (by omega) rfl:RaiseI x s (i+1) ((c+(((limbs x).getD i 0)*2^s))/2^32) (out.set i ((c+(((limbs x).getD i 0)*2^s))%4294967296))) (?_:(limbs x).length-(i+1)<(limbs x).length-i)))))))))) (fun h3=>I (?_:(limbs x).length<((limbs x).length)+1) (I (?_:(limbs x).length<out.length) (And.intro (hI.fin' (by omega) (by omega):out.set ((limbs x).length) c=padL (x*2^s) ((limbs x).length+1)) ((?_:((limbs x).length)+1=(limbs x).length+1)))))))))<;>omega)
abbrev VL:CtrO Tryz.prog:=FO.c Li
abbrev VK(k:Nat)(b:List Bd)(x:Nat)(s:Nat):WV:= .c (.one (.gs k ((limbs x).length+1) 1 ((b0 b).nb/32+2)))
abbrev VJ(b:List Bd)(x:Nat)(s:Nat):WB:= .gro (.nat .u32) (.n 4294967295) (padL (x*2^s) ((limbs x).length+1))
theorem OI(d:Nat)(x:Nat)(s:Nat)(hx:Bnds [.mag,(.nat .i64)] [(.n 1099511627776),(.n 32)] (x,s))(hp: ∀c0∈([]:List Prop),c0):SigG Tryz.prog 265 (argsE [.mag,(.nat .i64)] (x,s)) [] (VK d [(.n 1099511627776),(.n 32)] x s).exp [(d,some (VJ [(.n 1099511627776),(.n 32)] x s).exp)]:=Li.sig d (x,s) hx hp
abbrev Jq(b:List Bd)(x s:Nat):WV:= .c (.one (.dt (.sl (.nat .u32)) (.s ((b0 b).nb/32+2) (.n 4294967295)) (padL (x*2^s) ((limbs x).length+1))))
theorem OH(b:List Bd)(x s:Nat)(hx:Bnds [.mag,.nat .i64] b (x,s))(hp: ∀p∈([]:List Prop),p):(Jq b x s).ok:=qa ⟨by rw[wz];exact Nat.succ_le_succ (L3 (Bnds.h2 hx).1),Jm _ _⟩ rfl
def R3:Ctr Tryz.prog:=⟨265,[.mag,.nat .i64],[.n 1099511627776,.n 32],fun z=>[],fun b z=>Jq b z.1 z.2,fun z hx hp=>frzO (OI 0 z.1 z.2 hx hp) (by decide) (wz _ _).symm _,fun _ _=>rfl,fun b z hx hp=>OH b z.1 z.2 hx hp⟩
abbrev of_i:FI:=⟨259,[(.nat .u64)],[(.n 18446744073709551615)],fun _=>[],fun b z=>(fun(x:Nat)=> .c (.one (.dt .mag (.n (Nat.log2 (b0 b).nb+1)) (x)))) z⟩
theorem of_k:of_i.OK Tryz.prog:=mkF hmix 10 Tryz.func259 rfl rfl (by decide) [] (fun(x:Nat) b hx hp=>qa (Nat.lt_of_le_of_lt (Bnds.h1 hx).nat Nat.lt_log2_self) rfl) (fun(x:Nat) hx hp=>by
 have hx0:x≤18446744073709551615:=hx
 refine⟨.h 1 5 (.mk (.im (.nat .u32) (.n 4294967295))) (.h 1 6 (.c Av) (.nil)),kcast (by kernel_rfl) (I (by intro u hu;simp only[List.mem_cons,List.not_mem_nil,or_false]at hu;omega: ∀u∈[x%4294967296,x/2^32],u<4294967296) ((by simp only[valL];omega:valL [x%4294967296,x/2^32]=x)))⟩)
abbrev of_c:Ctr Tryz.prog:=FI.c of_k
def tab8:ByteArray:=⟨#[0,1,2,2,3,3,3,3,4,4,4,4,4,4,4,4,5,5,5,5,5,5,5,5,5,5,5,5,5,5,5,5,6,6,6,6,6,6,6,6,6,6,6,6,6,6,6,6,6,6,6,6,6,6,6,6,6,6,6,6,6,6,6,6,7,7,7,7,7,7,7,7,7,7,7,7,7,7,7,7,7,7,7,7,7,7,7,7,7,7,7,7,7,7,7,7,7,7,7,7,7,7,7,7,7,7,7,7,7,7,7,7,7,7,7,7,7,7,7,7,7,7,7,7,7,7,7,7,8,8,8,8,8,8,8,8,8,8,8,8,8,8,8,8,8,8,8,8,8,8,8,8,8,8,8,8,8,8,8,8,8,8,8,8,8,8,8,8,8,8,8,8,8,8,8,8,8,8,8,8,8,8,8,8,8,8,8,8,8,8,8,8,8,8,8,8,8,8,8,8,8,8,8,8,8,8,8,8,8,8,8,8,8,8,8,8,8,8,8,8,8,8,8,8,8,8,8,8,8,8,8,8,8,8,8,8,8,8,8,8,8,8,8,8,8,8,8,8,8,8,8,8,8,8,8,8]⟩
abbrev Tp:FO:=⟨209,[(.sl (.nat .u32))],[(.s 1099511627776 (.n 4294967295))],fun _=>[],fun k b z=>(fun(ls:List Nat)=> .c (.one (.gs k (ls.length) 1 ((b0 b).len)))) z,fun b z=>(fun(ls:List Nat)=> .gro (.nat .u32) ((b0 b).e) (ls)) z⟩
theorem Tq:Tp.OK Tryz.prog:=mkO hmix 8 7 Tryz.func209 rfl rfl (by decide) [] (fun _=>rfl) (fun _ _ _=>rfl) (fun _ _=>rfl) (fun _ _ _=>⟨rfl,rfl⟩) (fun(ls:List Nat) k b hx hp=>⟨qa (Bnds.h1 hx).sl.1 rfl,(Bnds.h1 hx).sl.2⟩) (fun(ls:List Nat) hx hp=>by
 have hl0:ls.length≤1099511627776:=hx.1
 refine bodyO.g (.cond (.nil) (.h 3 0 (.mk (.gro (.nat .u32) (.n 4294967295))) (.nil))) (kcast (by kernel_rfl) (And.intro (fun(h1:ls=[])=>And.intro (h1.symm:([]:List Nat)=ls) ((by rw[h1];rfl:0=ls.length))) (I (rfl:0=([]:List Nat).length) (And.intro (rfl:([]:List Nat)++ls=ls) ((?_:0+ls.length=ls.length))))))<;>omega)
abbrev To(k:Nat)(b:List Bd)(ls:List Nat):WV:= .c (.one (.gs k (ls.length) 1 ((b0 b).len)))
abbrev Tn(b:List Bd)(ls:List Nat):WB:= .gro (.nat .u32) ((b0 b).e) (ls)
theorem Nb(d:Nat)(ls:List Nat)(hx:Bnds [(.sl (.nat .u32))] [(.s 1099511627776 (.n 4294967295))] ls)(hp: ∀c0∈([]:List Prop),c0):SigG Tryz.prog 209 (argsE [(.sl (.nat .u32))] ls) [] (To d [(.s 1099511627776 (.n 4294967295))] ls).exp [(d,some (Tn [(.s 1099511627776 (.n 4294967295))] ls).exp)]:=Tq.sig d ls hx hp
def Ak:Ctr Tryz.prog:=⟨209,[.sl (.nat .u32)],[.s 1099511627776 (.n 4294967295)],fun z=>[],fun b z=> .c (.one (.dt (.sl (.nat .u32)) (b0 b) z)),fun z hx hp=>frzO (Nb 0 z hx hp) (by decide) rfl _,fun _ _=>rfl,fun b z hx hp=>qa (Bnds.h1 hx) rfl⟩
theorem LT(x:Nat)(hx:Bnds [.mag] [.n 1099511627776] x):Sig Tryz.prog 209 (argsE [.mag] x) (WV.c (.one (.dt .mag (.n 1099511627776) x))).exp:=by
 have h:=Ak.sig (limbs x) ⟨Nat.le_trans (qg (Nat.le_of_lt hx)) (by decide),(Bnd.limbs hx).2⟩ (by intro p hp;cases hp)
 have e:(Ak.res Ak.bs (limbs x)).exp=(WV.c (.one (.dt .mag (.n 1099511627776) x))).exp:=magE x _ _
 rw[e]at h
 rw[CF];exact h
def BW:Ctr Tryz.prog:=⟨209,[.mag],[.n 1099511627776],fun z=>[],fun b z=> .c (.one (.dt .mag (b0 b) z)),fun z hx hp=>LT z hx,fun _ _=>rfl,fun b z hx hp=>qa (Bnds.h1 hx) rfl⟩
abbrev WU:FV:=⟨220,true,(.nat .u32),(.n 4294967295),1099511627776,[],[],fun l lo n cap z=>[n=l.length],fun k b l lo n cap z=> .c (.one (.gs k (limbs (valL l)).length 1 1099511627776)),fun l lo n cap z=>l⟩
theorem WW:WU.OK Tryz.prog:=mkSl hmix 21 Tryz.func220 rfl rfl (by decide) [] (fun _=>rfl) (fun _ _ _ _ _=>rfl) (fun _ _ _ _ _ _ _=>rfl) (fun _ _ _ _ _ _=>rfl) (fun(l:List Nat)(lo n cap:Nat)  k b hx hs hn(hm:n≤1099511627776) hp=>⟨qa (Nat.le_trans (GA (GW hs)) (by have:=hp _ (List.mem_cons_self);omega)) rfl,hs⟩) (fun(l:List Nat)(lo n cap:Nat)  hs hx hn(hm:n≤1099511627776) hp=>by
 have hp0:n=l.length:=hp _ (List.mem_cons_self)
 have hU:=GW hs
 refine⟨.loop [.s 3 (.nat .i64) (.n 1099511627776)] (fun(k:Nat)=>k≤l.length∧valL (l.take k)=valL l) (fun(k:Nat)=>k) (fun(k:Nat)=> .cond (.h 2 5 (.i .sub) (.cond (.h 3 1 (.i .sub) (.nil)) (.nil))) (.nil)),kcast (by kernel_rfl) (I (⟨by omega,by rw[hp0,List.take_length]⟩:n≤l.length∧valL (l.take n)=valL l) (fun(k:Nat)(hb1:HB [.s 3 (.nat .i64) (.n 1099511627776)] k)(hC:k≤l.length∧valL (l.take k)=valL l)=>have hv6:=(show k≤1099511627776 from hb1);have hk:=hC.1;Sp (0<k) (fun h2=>I (?_:1≤k) (I (?_:k-1<n) (I (?_:k-1<l.length) (Sp (l.getD (k-1) 0=0) (fun h3=>I (?_:1≤k) (And.intro (⟨by omega,Dr hC.1 (by omega) hC.2 (by omega)⟩:k-1≤l.length∧valL (l.take (k-1))=valL l) (?_:k-1<k))) (fun h4=>I (?_:k≤n) (I (?_:n≤l.length) (And.intro (Eq.refl l) ((by rw[←zf hU hC.1 hC.2 (by omega),List.length_take,Nat.min_eq_left hC.1]:k=(limbs (valL l)).length))))))))) (fun h5=>I (?_:k≤n) (I (?_:n≤l.length) (And.intro (Eq.refl l) ((by rw[←zf hU hC.1 hC.2 (by omega),List.length_take,Nat.min_eq_left hC.1]:k=(limbs (valL l)).length)))))))⟩<;>omega)
abbrev WT:CtrS Tryz.prog:=FV.c WW
theorem bl_8{x:Nat}(h:x<256):bl x≤8:=by
 have h1:=Fc x
 rcases Nat.eq_zero_or_pos x with e|e
 ·subst e;decide
 ·have h2:=Dz (n:=x) (by omega)
  apply Nat.le_of_lt_succ
  apply Nat.lt_of_not_le
  intro h3
  have:=Nat.pow_le_pow_right (show 0<2 by omega) (show 8≤bl x-1 by omega)
  omega
abbrev Uq:FI:=⟨261,[(.nat .u32)],[(.n 4294967295)],fun _=>[],fun b z=>(fun(x:Nat)=> .c (.one (.dt (.nat .i64) (.n (Nat.log2 (b0 b).nb+1)) (bl x)))) z⟩
theorem Ur:Uq.OK Tryz.prog:=mkF hmix 19 Tryz.func261 rfl rfl (by decide) [] (fun(x:Nat) b hx hp=>qa (Iq (Bnds.h1 hx).nat) rfl) (fun(x:Nat) hx hp=>by
 have hx0:x≤4294967295:=hx
 have h1:65536≤x→bl x=bl (x/2^16)+16:=fun h=>Aj (k:=16) h
 have h2:256≤x/2^16→bl (x/2^16)=bl (x/2^16/2^8)+8:=fun h=>Aj (k:=8) h
 have h3:256≤x→bl x=bl (x/2^8)+8:=fun h=>Aj (k:=8) h
 refine⟨.cond (.cond (.h 7 2 (.i (.n (((x/2^16)/2^8)%256) 255)) (.h 7 3 (.any [.c (.one (.vl (.string tab8))),.c (.one (.dt (.nat .u8) (.n 255) (((x/2^16)/2^8)%256)))] (.c (.one (.dt (.nat .u8) (.n 8) (bl (((x/2^16)/2^8)%256))))) (qa (bl_8 (Nat.mod_lt _ (by decide))) rfl) (Op.index 9 (.const (.string tab8)) (.tmp 15)) (fun _=>Bu (j:=(((x/2^16)/2^8)%256)) (by kernel_rfl) rfl (Nat.mod_lt _ (by decide)) (by kernel_rfl))) (.nil))) (.h 7 2 (.i (.n ((x/2^16)%256) 255)) (.h 7 3 (.any [.c (.one (.vl (.string tab8))),.c (.one (.dt (.nat .u8) (.n 255) ((x/2^16)%256)))] (.c (.one (.dt (.nat .u8) (.n 8) (bl ((x/2^16)%256))))) (qa (bl_8 (Nat.mod_lt _ (by decide))) rfl) (Op.index 9 (.const (.string tab8)) (.tmp 15)) (fun _=>Bu (j:=((x/2^16)%256)) (by kernel_rfl) rfl (Nat.mod_lt _ (by decide)) (by kernel_rfl))) (.nil)))) (.cond (.h 7 2 (.i (.n ((x/2^8)%256) 255)) (.h 7 3 (.any [.c (.one (.vl (.string tab8))),.c (.one (.dt (.nat .u8) (.n 255) ((x/2^8)%256)))] (.c (.one (.dt (.nat .u8) (.n 8) (bl ((x/2^8)%256))))) (qa (bl_8 (Nat.mod_lt _ (by decide))) rfl) (Op.index 9 (.const (.string tab8)) (.tmp 15)) (fun _=>Bu (j:=((x/2^8)%256)) (by kernel_rfl) rfl (Nat.mod_lt _ (by decide)) (by kernel_rfl))) (.nil))) (.h 7 2 (.i (.n (x%256) 255)) (.h 7 3 (.any [.c (.one (.vl (.string tab8))),.c (.one (.dt (.nat .u8) (.n 255) (x%256)))] (.c (.one (.dt (.nat .u8) (.n 8) (bl (x%256))))) (qa (bl_8 (Nat.mod_lt _ (by decide))) rfl) (Op.index 9 (.const (.string tab8)) (.tmp 15)) (fun _=>Bu (j:=(x%256)) (by kernel_rfl) rfl (Nat.mod_lt _ (by decide)) (by kernel_rfl))) (.nil)))),kcast (by kernel_rfl) (Sp (65536≤x) (fun h1=>Sp (256≤x/2^16) (fun h2=>I (Fv _:IntKind.wrap .u8 (((x/2^16)/2^8:Nat):Int)=((((x/2^16)/2^8)%256:Nat):Int)) (I (?_:((x/2^16)/2^8)%256≤255) (I (rfl:([.c (.one (.vl (.string tab8))),.c (.one (.dt (.nat .u8) (.n 255) (((x/2^16)/2^8)%256)))]:List WV)=[.c (.one (.vl (.string tab8))),.c (.one (.dt (.nat .u8) (.n 255) (((x/2^16)/2^8)%256)))]) (I (rfl:(Op.index 9 (.const (.string tab8)) (.tmp 15):Op)=Op.index 9 (.const (.string tab8)) (.tmp 15)) ((by rw[Nat.mod_eq_of_lt (show((x/2^16)/2^8)<256 by omega)];omega:24+(bl (((x/2^16)/2^8)%256))=bl x)))))) (fun h3=>I (Fv _:IntKind.wrap .u8 ((x/2^16:Nat):Int)=(((x/2^16)%256:Nat):Int)) (I (?_:(x/2^16)%256≤255) (I (rfl:([.c (.one (.vl (.string tab8))),.c (.one (.dt (.nat .u8) (.n 255) ((x/2^16)%256)))]:List WV)=[.c (.one (.vl (.string tab8))),.c (.one (.dt (.nat .u8) (.n 255) ((x/2^16)%256)))]) (I (rfl:(Op.index 9 (.const (.string tab8)) (.tmp 15):Op)=Op.index 9 (.const (.string tab8)) (.tmp 15)) ((by rw[Nat.mod_eq_of_lt (show(x/2^16)<256 by omega)];omega:16+(bl ((x/2^16)%256))=bl x))))))) (fun h4=>Sp (256≤x) (fun h5=>I (Fv _:IntKind.wrap .u8 ((x/2^8:Nat):Int)=(((x/2^8)%256:Nat):Int)) (I (?_:(x/2^8)%256≤255) (I (rfl:([.c (.one (.vl (.string tab8))),.c (.one (.dt (.nat .u8) (.n 255) ((x/2^8)%256)))]:List WV)=[.c (.one (.vl (.string tab8))),.c (.one (.dt (.nat .u8) (.n 255) ((x/2^8)%256)))]) (I (rfl:(Op.index 9 (.const (.string tab8)) (.tmp 15):Op)=Op.index 9 (.const (.string tab8)) (.tmp 15)) ((by rw[Nat.mod_eq_of_lt (show(x/2^8)<256 by omega)];omega:8+(bl ((x/2^8)%256))=bl x)))))) (fun h6=>I (Fv _:IntKind.wrap .u8 (x:Int)=((x%256:Nat):Int)) (I (?_:x%256≤255) (I (rfl:([.c (.one (.vl (.string tab8))),.c (.one (.dt (.nat .u8) (.n 255) (x%256)))]:List WV)=[.c (.one (.vl (.string tab8))),.c (.one (.dt (.nat .u8) (.n 255) (x%256)))]) (I (rfl:(Op.index 9 (.const (.string tab8)) (.tmp 15):Op)=Op.index 9 (.const (.string tab8)) (.tmp 15)) ((by rw[Nat.mod_eq_of_lt (show x<256 by omega)];omega:0+(bl (x%256))=bl x))))))))⟩<;>omega)
abbrev L0:Ctr Tryz.prog:=FI.c Ur
abbrev YI:FI:=⟨264,[(.nat .u32)],[(.n 4294967295)],fun _=>[],fun b z=>(fun(x:Nat)=> .c (.one (.dt (.nat .i64) (.n 32) (32-bl x)))) z⟩
theorem YJ:YI.OK Tryz.prog:=mkF hmix 6 Tryz.func264 rfl rfl (by decide) [(261,.c L0)] (fun(x:Nat) b hx hp=>qa (Nat.sub_le _ _) rfl) (fun(x:Nat) hx hp=>by
 have hx0:x≤4294967295:=hx
 have hb:= @LQ x
 refine⟨.h 1 2 (.i .sub) (.nil),kcast (by kernel_rfl) (I (?_:bl x≤32) ((?_:32-(bl x)=32-bl x)))⟩<;>omega)
abbrev YH:Ctr Tryz.prog:=FI.c YJ
abbrev XI:FI:=⟨214,[.mag],[(.n 1099511627776)],fun _=>[],fun b z=>(fun(x:Nat)=> .c (.one (.dt (.nat .i64) (b0 b) (bl x)))) z⟩
theorem XJ:XI.OK Tryz.prog:=mkF hmix 20 Tryz.func214 rfl rfl (by decide) [(220,.c Aa),(261,.c L0)] (fun(x:Nat) b hx hp=>qa (N6 (Bnds.h1 hx)) rfl) (fun(x:Nat) hx hp=>by
 have hx0:lt2 x 1099511627776:=hx
 have hl0:(limbs x).length≤34359738369:=qg (Nat.le_of_lt hx0)
 refine⟨.cond (.nil) (.h 4 2 (.i .sub) (.h 4 7 (.i .sub) (.nil))),kcast (by kernel_rfl) (Sp ((limbs x).length=0) (fun h1=>(by have:=(nl0 (x:=x)).1 (by omega);subst this;rfl:0=bl x)) (fun h2=>have hpos:=(show 0<(limbs x).length by omega);have hBB:=Gg hpos;I (?_:1≤(limbs x).length) (I (?_:1≤(limbs x).length) (I (?_:((limbs x).length) -1<(limbs x).length) ((?_:(32*(((limbs x).length) -1))+(bl ((limbs x).getD (((limbs x).length) -1) 0))=bl x))))))⟩<;>omega)
abbrev N5:Ctr Tryz.prog:=FI.c XJ
abbrev q1i:FI:=⟨219,[.mag,.mag],[(.n 1099511627776),(.n 1099511627776)],fun z=>(fun(x:Nat)(y:Nat)=>[0<y]) z.1 z.2,fun b z=>(fun(x:Nat)(y:Nat)=> .tup [.one (.dt .mag (b0 b) (x/y)),.one (.dt .mag (b1 b) (x%y)),.one (.kn .i64 0)]) z.1 z.2⟩
theorem q1j:q1i.OK Tryz.prog:=mkF hmix 300 Tryz.func219 rfl rfl (by decide) [(208,.c LU),(209,.c BW),(220,.c Av),(263,.c WI),(264,.c YH),(265,.c R3)] (fun(x:Nat)(y:Nat) b hx hp=>qu (qa ((Bnds.h2 hx).1.magLe (Nat.div_le_self _ _)) rfl) (qu (qa ((Bnds.h2 hx).2.magLe (Nat.le_of_lt (Nat.mod_lt _ (hp _ (List.mem_cons_self))))) rfl) (qu SA jh))) (fun(x:Nat)(y:Nat) hx hp=>by
 have hx0:lt2 x 1099511627776:=hx.1
 have hl0:(limbs x).length≤34359738369:=qg (Nat.le_of_lt hx0)
 have hx1:lt2 y 1099511627776:=hx.2
 have hl1:(limbs y).length≤34359738369:=qg (Nat.le_of_lt hx1)
 have hp0:0<y:=hp _ (List.mem_cons_self)
 have hyp:=mt (nl0 (x:=y)).1 (show¬y=0 by omega)
 refine⟨.h 1 1 (.c Aa) (.h 1 3 (.c Aa) (.cond (.dead) (.cond (.nil) (.cond (.h 8 2 (.mk (.im (.nat .u32) (.n 4294967295))) (.nil)) (.h 9 3 (.i .sub) ((fun(s:Nat)=> .h 10 2 (.o VL) (.h 10 6 (.mag (y*2^s) 1099511627808) ((fun(m:Nat)=> .h 12 3 (.i .sub) (.h 12 4 (.mk (.arr (.nat .u32) (.n 4294967295))) (.loop [.s 13 (.int .i64) (.n 1099511627776),.bk 66 (.nat .u32) (.n 4294967295),.a 77 (.nat .u32) (.n 4294967295)] (fun((z,out,ql):Int×List Nat×List Nat)=>DivZ x y s z out ql) (fun((z,out,ql):Int×List Nat×List Nat)=>(z+1).toNat) (fun((z,out,ql):Int×List Nat×List Nat)=> .cond ((fun(j:Nat)=> .h 16 4 (.ix (j+m)) (.h 16 13 (.ix (j+m-1)) (.h 16 16 (.i (.n (((out.getD (j+m) 0)*2^32)+(out.getD (j+m-1) 0)) 18446744073709551615)) ((fun(t:Nat)=> .h 17 3 (.i .sub) (.h 17 11 (.i .sub) (.loop [.s 15 (.nat .u64) (.n 4294967297),.s 16 (.nat .u64) (.n 4294967295)] (fun((q,r):Nat×Nat)=>Est x y s j out q r) (fun((q,r):Nat×Nat)=>q) (fun((q,r):Nat×Nat)=> .cond (.h 19 1 (.i .sub) (.h 20 3 (.i .sub) (.cond (.loop [.s 156 (.nat .i64) (.n 137438953472),.s 17 (.nat .u64) (.n 1),.s 18 (.nat .u64) (.n 4294967295),.bk 66 (.nat .u32) (.n 4294967295)] (fun((i2,b,k,ls2):Nat×Nat×Nat×List Nat)=>MsI y s j (q-1) out i2 k b ls2) (fun((i2,b,k,ls2):Nat×Nat×Nat×List Nat)=>(limbs (y*2^s)).length-i2) (fun((i2,b,k,ls2):Nat×Nat×Nat×List Nat)=> .cond (.h 26 5 (.i (.n (k+((q-1)*((limbs (y*2^s)).getD i2 0))) 18446744073709551615)) (.h 27 4 (.ix (i2+j)) (.h 27 8 (.i (.n ((k+((q-1)*((limbs (y*2^s)).getD i2 0)))%4294967296) 4294967295)) (.h 27 9 (.i (.n (dif (ls2.getD (i2+j) 0) ((k+((q-1)*((limbs (y*2^s)).getD i2 0)))%4294967296)) 18446744073709551615)) (.h 27 11 (.i (.n (dif (dif (ls2.getD (i2+j) 0) ((k+((q-1)*((limbs (y*2^s)).getD i2 0)))%4294967296)) b) 18446744073709551615)) (.h 28 6 (.ix (i2+j)) (.nil))))))) (.h 32 4 (.ix (j+m)) (.h 32 8 (.i (.n (dif (ls2.getD (j+m) 0) k) 18446744073709551615)) (.h 32 10 (.i (.n (dif (dif (ls2.getD (j+m) 0) k) b) 18446744073709551615)) ((fun(d:Nat)=> .h 33 6 (.ix (j+m)) (.cond (.h 35 1 (.i .sub) (.loop [.s 216 (.nat .i64) (.n 137438953472),.s 18 (.nat .u64) (.n 1),.bk 66 (.nat .u32) (.n 4294967295)] (fun((i3,c3,ls3):Nat×Nat×List Nat)=>AbI y s j (ls2.set (j+m) (d%4294967296)) i3 c3 ls3) (fun((i3,c3,ls3):Nat×Nat×List Nat)=>(limbs (y*2^s)).length-i3) (fun((i3,c3,ls3):Nat×Nat×List Nat)=> .cond (.h 40 5 (.ix (i3+j)) (.h 41 6 (.ix (i3+j)) (.nil))) (.h 44 4 (.ix (j+m)) (.h 44 8 (.i (.n (((ls3.getD (j+m) 0)+c3)%4294967296) 4294967295)) (.h 44 9 (.ix (j+m)) (.h 45 4 (.ix j) (.nil)))))))) (.h 45 4 (.ix j) (.nil)))) (dif (dif (ls2.getD (j+m) 0) k) b))))))) (.nil)))) (.h 18 6 (.i .sub) (.h 18 18 (.ix (j+m-2)) (.h 18 21 (.i (.n ((r*2^32)+(out.getD (j+m-2) 0)) 18446744073709551615)) (.cond (.h 19 1 (.i .sub) (.h 20 3 (.i .sub) (.cond (.loop [.s 156 (.nat .i64) (.n 137438953472),.s 17 (.nat .u64) (.n 1),.s 18 (.nat .u64) (.n 4294967295),.bk 66 (.nat .u32) (.n 4294967295)] (fun((i2,b,k,ls2):Nat×Nat×Nat×List Nat)=>MsI y s j (q-1) out i2 k b ls2) (fun((i2,b,k,ls2):Nat×Nat×Nat×List Nat)=>(limbs (y*2^s)).length-i2) (fun((i2,b,k,ls2):Nat×Nat×Nat×List Nat)=> .cond (.h 26 5 (.i (.n (k+((q-1)*((limbs (y*2^s)).getD i2 0))) 18446744073709551615)) (.h 27 4 (.ix (i2+j)) (.h 27 8 (.i (.n ((k+((q-1)*((limbs (y*2^s)).getD i2 0)))%4294967296) 4294967295)) (.h 27 9 (.i (.n (dif (ls2.getD (i2+j) 0) ((k+((q-1)*((limbs (y*2^s)).getD i2 0)))%4294967296)) 18446744073709551615)) (.h 27 11 (.i (.n (dif (dif (ls2.getD (i2+j) 0) ((k+((q-1)*((limbs (y*2^s)).getD i2 0)))%4294967296)) b) 18446744073709551615)) (.h 28 6 (.ix (i2+j)) (.nil))))))) (.h 32 4 (.ix (j+m)) (.h 32 8 (.i (.n (dif (ls2.getD (j+m) 0) k) 18446744073709551615)) (.h 32 10 (.i (.n (dif (dif (ls2.getD (j+m) 0) k) b) 18446744073709551615)) ((fun(d:Nat)=> .h 33 6 (.ix (j+m)) (.cond (.h 35 1 (.i .sub) (.loop [.s 216 (.nat .i64) (.n 137438953472),.s 18 (.nat .u64) (.n 1),.bk 66 (.nat .u32) (.n 4294967295)] (fun((i3,c3,ls3):Nat×Nat×List Nat)=>AbI y s j (ls2.set (j+m) (d%4294967296)) i3 c3 ls3) (fun((i3,c3,ls3):Nat×Nat×List Nat)=>(limbs (y*2^s)).length-i3) (fun((i3,c3,ls3):Nat×Nat×List Nat)=> .cond (.h 40 5 (.ix (i3+j)) (.h 41 6 (.ix (i3+j)) (.nil))) (.h 44 4 (.ix (j+m)) (.h 44 8 (.i (.n (((ls3.getD (j+m) 0)+c3)%4294967296) 4294967295)) (.h 44 9 (.ix (j+m)) (.h 45 4 (.ix j) (.nil)))))))) (.h 45 4 (.ix j) (.nil)))) (dif (dif (ls2.getD (j+m) 0) k) b))))))) (.nil)))) (.loop [.s 156 (.nat .i64) (.n 137438953472),.s 17 (.nat .u64) (.n 1),.s 18 (.nat .u64) (.n 4294967295),.bk 66 (.nat .u32) (.n 4294967295)] (fun((i2,b,k,ls2):Nat×Nat×Nat×List Nat)=>MsI y s j q out i2 k b ls2) (fun((i2,b,k,ls2):Nat×Nat×Nat×List Nat)=>(limbs (y*2^s)).length-i2) (fun((i2,b,k,ls2):Nat×Nat×Nat×List Nat)=> .cond (.h 26 5 (.i (.n (k+(q*((limbs (y*2^s)).getD i2 0))) 18446744073709551615)) (.h 27 4 (.ix (i2+j)) (.h 27 8 (.i (.n ((k+(q*((limbs (y*2^s)).getD i2 0)))%4294967296) 4294967295)) (.h 27 9 (.i (.n (dif (ls2.getD (i2+j) 0) ((k+(q*((limbs (y*2^s)).getD i2 0)))%4294967296)) 18446744073709551615)) (.h 27 11 (.i (.n (dif (dif (ls2.getD (i2+j) 0) ((k+(q*((limbs (y*2^s)).getD i2 0)))%4294967296)) b) 18446744073709551615)) (.h 28 6 (.ix (i2+j)) (.nil))))))) (.h 32 4 (.ix (j+m)) (.h 32 8 (.i (.n (dif (ls2.getD (j+m) 0) k) 18446744073709551615)) (.h 32 10 (.i (.n (dif (dif (ls2.getD (j+m) 0) k) b) 18446744073709551615)) ((fun(d:Nat)=> .h 33 6 (.ix (j+m)) (.cond (.h 35 1 (.i .sub) (.loop [.s 216 (.nat .i64) (.n 137438953472),.s 18 (.nat .u64) (.n 1),.bk 66 (.nat .u32) (.n 4294967295)] (fun((i3,c3,ls3):Nat×Nat×List Nat)=>AbI y s j (ls2.set (j+m) (d%4294967296)) i3 c3 ls3) (fun((i3,c3,ls3):Nat×Nat×List Nat)=>(limbs (y*2^s)).length-i3) (fun((i3,c3,ls3):Nat×Nat×List Nat)=> .cond (.h 40 5 (.ix (i3+j)) (.h 41 6 (.ix (i3+j)) (.nil))) (.h 44 4 (.ix (j+m)) (.h 44 8 (.i (.n (((ls3.getD (j+m) 0)+c3)%4294967296) 4294967295)) (.h 44 9 (.ix (j+m)) (.h 45 4 (.ix j) (.nil)))))))) (.h 45 4 (.ix j) (.nil)))) (dif (dif (ls2.getD (j+m) 0) k) b))))))))))))))) (((out.getD (j+m) 0)*2^32)+(out.getD (j+m-1) 0)))))) z.toNat) (.h 46 1 (.s WT) (.loop [.s 262 (.nat .i64) (.n 1099511627776),.bk 66 (.nat .u32) (.n 4294967295)] (fun((i4,ls4):Nat×List Nat)=>DownI (valL out) s ((limbs x).length+1) i4 ls4) (fun((i4,ls4):Nat×List Nat)=>(limbs (valL out)).length-i4) (fun((i4,ls4):Nat×List Nat)=> .cond (.h 50 5 (.i (.n ((ls4.getD i4 0)/2^s) 4294967295)) (.cond (.cond (.h 52 10 (.i .sub) (.h 52 11 (.i (.n (((ls4.set i4 ((ls4.getD i4 0)/2^s)).getD (i4+1) 0)*2^(32-s)%4294967296) 4294967295)) (.h 52 12 (.i (.n (((ls4.set i4 ((ls4.getD i4 0)/2^s)).getD i4 0)+(((ls4.set i4 ((ls4.getD i4 0)/2^s)).getD (i4+1) 0)*2^(32-s)%4294967296)) 4294967295)) (.nil)))) (.nil)) (.nil))) (.pre 54 (.frz 77 true [4,5,66]) (.pre 54 (.frz 66 false [4,5]) (.nil)))))))))) ((limbs (y*2^s)).length)))) (32-bl ((limbs y).getD (((limbs y).length) -1) 0)))))))),kcast (by kernel_rfl) (And.intro (fun(h1:(limbs y).length=0)=>(absurd (nl0.1 h1) (by omega):False)) (fun(h2: ¬((limbs y).length=0))=>And.intro (fun(h3:cmpN x y<0)=>And.intro ((Nat.div_eq_of_lt (jf.1 (by omega))).symm:0=x/y) ((Nat.mod_eq_of_lt (jf.1 (by omega))).symm:x=x%y)) (fun(h4: ¬(cmpN x y<0))=>And.intro (fun(h5:(limbs y).length=1)=>have hyx:=(show y≤x from by have:=mt jf.2 (show¬cmpN x y<0 by omega);omega);have hl1:=(show(limbs y).length=1 by omega);have hg0:=q8 y 0;have hy1:=(show(limbs y).getD 0 0=y from by have:=vf (x:=y) (by omega);rw[hl1]at this;simpa[valL]using this.symm);I (by omega:0<(limbs y).length) (I (by omega:0<(limbs y).getD 0 0) (I (by intro u hu;simp only[List.mem_cons,List.not_mem_nil,or_false]at hu;subst hu;have:=Nat.mod_lt x (show 0<(limbs y).getD 0 0 by omega);omega: ∀u∈[x%((limbs y).getD 0 0)],u<4294967296) (And.intro (by rw[hy1]:x/((limbs y).getD 0 0)=x/y) (by rw[hy1];rfl:valL [x%((limbs y).getD 0 0)]=x%y))))) (fun(h6: ¬((limbs y).length=1))=>have hyx:=(show y≤x from by have:=mt jf.2 (show¬cmpN x y<0 by omega);omega);have hg0:=q8 y ((limbs y).length-1);have hsd:= @LQ _ hg0;have hC0:=DivC.mk' (x:=x) (y:=y) (by omega) hyx;I (by omega:1≤(limbs y).length) (I (by omega:((limbs y).length) -1<(limbs y).length) ((fun(s:Nat)(hs:s=32-bl ((limbs y).getD (((limbs y).length) -1) 0))=>have hC:=(show DivC x y s from by subst hs;exact hC0);have hss:=hC.hs;have hV:=hC.hV;have hC2:=hC.h2;have hCx:=hC.hyx;I (E3 _ _: ∀u∈padL (y*2^s) ((limbs y).length+1),u<4294967296) (I (Db y s (by omega):valL (padL (y*2^s) ((limbs y).length+1))=y*2^s) (I (NR hx1 (by omega):lt2 (y*2^s) 1099511627808) ((fun(m:Nat)(hm:m=(limbs y).length)=>have hDt:=(show 2147483648≤(limbs (y*2^s)).getD (m-1) 0 from by subst hm;exact hC.ht);I (by omega:m≤(limbs x).length+1) (I (by omega:((limbs x).length+1) -m=((limbs x).length+1) -m) (I (DivZ.start hC (by omega):DivZ x y s (((((limbs x).length+1) -m:Nat):Int) -1) (padL (x*2^s) ((limbs x).length+1)) (List.replicate (((limbs x).length+1) -m) (0:Nat))) (fun(z:Int)(out:List Nat)(ql:List Nat)(hb7:HB [.s 13 (.int .i64) (.n 1099511627776),.bk 66 (.nat .u32) (.n 4294967295),.a 77 (.nat .u32) (.n 4294967295)] (z,out,ql))(hD:DivZ x y s z out ql)=>have hv75:=(show Int.natAbs z≤1099511627776 from hb7.1);have hv76:=(show∀u∈out,u≤4294967295 from hb7.2.1);have hv77:=(show∀u∈ql,u≤4294967295 from hb7.2.2);have hDb:=hD.b;have hg:=(jv (by omega) hD.h.hu: ∀k,out.getD k 0<4294967296);And.intro (fun(h8:0≤z)=>(fun(j:Nat)(hj:j=z.toNat)=>have hz0:=(show 0≤z by omega);have hD1:=hD.at hz0 hj;have hga:=hg (j+m);have hgb:=hg (j+m-1);have hgc:=hg (j+m-2);have hva:=q8 (y*2^s) (m-1);have hvb:=q8 (y*2^s) (m-2);I (by omega:z+(m:Int)=((j+m:Nat):Int)) (I (by omega:j+m<(limbs x).length+1) (I (by omega:j+m<out.length) (I (by omega:(z+(m:Int)) -1=((j+m-1:Nat):Int)) (I (by omega:j+m-1<(limbs x).length+1) (I (by omega:j+m-1<out.length) (I (AD _ 32 rfl (by omega) (by omega):qw .or .u64 (((out.getD (j+m) 0)*2^32:Nat):Int) ((out.getD (j+m-1) 0:Nat):Int) ((((out.getD (j+m) 0)*2^32)+(out.getD (j+m-1) 0):Nat):Int)) (I (by omega:((out.getD (j+m) 0)*2^32)+(out.getD (j+m-1) 0)≤18446744073709551615) ((fun(t:Nat)(ht:t=((out.getD (j+m) 0)*2^32)+(out.getD (j+m-1) 0))=>I (by omega:1≤m) (I (by omega:m-1<(limbs (y*2^s)).length) (I (by omega:0<(limbs (y*2^s)).getD (m-1) 0) (I (by omega:1≤m) (I (by omega:m-1<(limbs (y*2^s)).length) (I (by omega:0<(limbs (y*2^s)).getD (m-1) 0) (I (by subst hm;have hE0:=Est.start hC hD1 ht;first|exact hE0.hq|exact Nat.le_of_lt_succ hE0.hr:Bnd (.nat .u64) (.n 4294967297) (t/((limbs (y*2^s)).getD (m-1) 0))) (I (by subst hm;exact Est.start hC hD1 ht:Est x y s j out (t/((limbs (y*2^s)).getD (m-1) 0)) (t%((limbs (y*2^s)).getD (m-1) 0))) (fun(q:Nat)(r:Nat)(hb9:HB [.s 15 (.nat .u64) (.n 4294967297),.s 16 (.nat .u64) (.n 4294967295)] (q,r))(hE:Est x y s j out q r)=>have hv63:=(show q≤4294967297 from hb9.1);have hv64:=(show r≤4294967295 from hb9.2);have hEq:=hE.hq;have hEr:=hE.hr;And.intro (fun(h10:4294967296≤q)=>have hTest:=(show 4294967296≤q∨r*4294967296+out.getD (j+m-2) 0<q*(limbs (y*2^s)).getD (m-2) 0 from by first|exact .inl (by omega)|exact .inr (by omega));have hq1:=(show 1≤q from by subst hm;exact(hE.less hC hD1 hTest).2);I (by omega:1≤q) (I (by omega:1≤m) (I (by omega:m-1<(limbs (y*2^s)).length) (And.intro (fun(h11:4294967296≤r+((limbs (y*2^s)).getD (m-1) 0))=>have hG:=(show Dig x y s j out (q-1)from by subst hm;first|exact hE.brk hC hD1 hTest (by omega)|exact hE.fin hC hD1 (by omega) (by omega));I (MsI.start hD1.hu:MsI y s j (q-1) out 0 0 0 out) (fun(i2:Nat)(b:Nat)(k:Nat)(ls2:List Nat)(hb12:HB [.s 156 (.nat .i64) (.n 137438953472),.s 17 (.nat .u64) (.n 1),.s 18 (.nat .u64) (.n 4294967295),.bk 66 (.nat .u32) (.n 4294967295)] (i2,b,k,ls2))(hM:MsI y s j (q-1) out i2 k b ls2)=>have hv23:=(show i2≤137438953472 from hb12.1);have hv24:=(show b≤1 from hb12.2.1);have hv25:=(show k≤4294967295 from hb12.2.2.1);have hv26:=(show∀u∈ls2,u≤4294967295 from hb12.2.2.2);have hMl:=hM.hl;have hMi:=hM.hi;have hMk:=hM.hk;have hMb:=hM.hb;have hGq:=hG.hq;have hmg:=(jv (by omega) hM.hu: ∀k,ls2.getD k 0<4294967296);have hmg0:=hmg (i2+j);have hmt:=hmg (j+m);have hmv:=q8 (y*2^s) i2;have hmm:=(Nat.mul_le_mul (by omega) (by omega):(q-1)*(limbs (y*2^s)).getD i2 0≤4294967295*4294967295);And.intro (fun(h13:i2<(limbs (y*2^s)).length)=>I (by omega:i2<(limbs (y*2^s)).length) (I (In (by omega):qw .add .u64 (k:Int) (((q-1)*((limbs (y*2^s)).getD i2 0):Nat):Int) ((k+((q-1)*((limbs (y*2^s)).getD i2 0)):Nat):Int)) (I (by omega:k+((q-1)*((limbs (y*2^s)).getD i2 0))≤18446744073709551615) (I (by omega:(i2:Int)+z=((i2+j:Nat):Int)) (I (by omega:i2+j<(limbs x).length+1) (I (by omega:i2+j<ls2.length) (I (Io (by omega):qw .and .u64 ((k+((q-1)*((limbs (y*2^s)).getD i2 0)):Nat):Int) 4294967295 (((k+((q-1)*((limbs (y*2^s)).getD i2 0)))%4294967296:Nat):Int)) (I (by omega:(k+((q-1)*((limbs (y*2^s)).getD i2 0)))%4294967296≤4294967295) (I (v8 (by first|omega|exact vt) (by omega):qw .sub .u64 ((ls2.getD (i2+j) 0:Nat):Int) (((k+((q-1)*((limbs (y*2^s)).getD i2 0)))%4294967296:Nat):Int) ((dif (ls2.getD (i2+j) 0) ((k+((q-1)*((limbs (y*2^s)).getD i2 0)))%4294967296):Nat):Int)) (I (jN _ _:dif (ls2.getD (i2+j) 0) ((k+((q-1)*((limbs (y*2^s)).getD i2 0)))%4294967296)≤18446744073709551615) (I (v8 (by first|omega|exact vt) (by omega):qw .sub .u64 ((dif (ls2.getD (i2+j) 0) ((k+((q-1)*((limbs (y*2^s)).getD i2 0)))%4294967296):Nat):Int) (b:Int) ((dif (dif (ls2.getD (i2+j) 0) ((k+((q-1)*((limbs (y*2^s)).getD i2 0)))%4294967296)) b:Nat):Int)) (I (jN _ _:dif (dif (ls2.getD (i2+j) 0) ((k+((q-1)*((limbs (y*2^s)).getD i2 0)))%4294967296)) b≤18446744073709551615) (I (by omega:(i2:Int)+z=((i2+j:Nat):Int)) (I (by omega:i2+j<(limbs x).length+1) (I (by omega:i2+j<ls2.length) (I (show(i2+1)≤137438953472 by omega:Bnd (.nat .i64) (.n 137438953472) (i2+1)) (And.intro ((hM.step (by omega) (by omega) hG.hq rfl rfl).1:MsI y s j (q-1) out (i2+1) ((k+((q-1)*((limbs (y*2^s)).getD i2 0)))/2^32) ((dif (dif (ls2.getD (i2+j) 0) ((k+((q-1)*((limbs (y*2^s)).getD i2 0)))%4294967296)) b)/2^63) (ls2.set (i2+j) ((dif (dif (ls2.getD (i2+j) 0) ((k+((q-1)*((limbs (y*2^s)).getD i2 0)))%4294967296)) b)%4294967296))) (by omega:(limbs (y*2^s)).length-(i2+1)<(limbs (y*2^s)).length-i2)))))))))))))))))) (fun(h14: ¬(i2<(limbs (y*2^s)).length))=>have hM1:=(show i2=m by omega)▸hM;I (by omega:z+(m:Int)=((j+m:Nat):Int)) (I (by omega:j+m<(limbs x).length+1) (I (by omega:j+m<ls2.length) (I (v8 (by first|omega|exact vt) (by omega):qw .sub .u64 ((ls2.getD (j+m) 0:Nat):Int) (k:Int) ((dif (ls2.getD (j+m) 0) k:Nat):Int)) (I (jN _ _:dif (ls2.getD (j+m) 0) k≤18446744073709551615) (I (v8 (by first|omega|exact vt) (by omega):qw .sub .u64 ((dif (ls2.getD (j+m) 0) k:Nat):Int) (b:Int) ((dif (dif (ls2.getD (j+m) 0) k) b:Nat):Int)) (I (jN _ _:dif (dif (ls2.getD (j+m) 0) k) b≤18446744073709551615) ((fun(d:Nat)(hd:d=dif (dif (ls2.getD (j+m) 0) k) b)=>I (by omega:z+(m:Int)=((j+m:Nat):Int)) (I (by omega:j+m<(limbs x).length+1) (I (by omega:j+m<ls2.length) (have hT:=MsI.top hM1 (by omega) (by omega) hd;have hT1:=hT.1;have hT2:=hT.2.1;have hT3:=hT.2.2.1;have hT4:=hT.2.2.2.1;have hT5:=hT.2.2.2.2;And.intro (fun(h15:d/2^63≠0)=>have hd1:=(show d/9223372036854775808=1 by omega);have hT1:=(show _ from by rw[hd1]at hT1;exact hT1);have hq1:=(show 1≤(q-1)from by subst hm;exact Dig.pos hC hD1 hT4 hT5 hT1);I (by omega:1≤q-1) (I (AbI.start hT5:AbI y s j (ls2.set (j+m) (d%4294967296)) 0 0 (ls2.set (j+m) (d%4294967296))) (fun(i3:Nat)(c3:Nat)(ls3:List Nat)(hb16:HB [.s 216 (.nat .i64) (.n 137438953472),.s 18 (.nat .u64) (.n 1),.bk 66 (.nat .u32) (.n 4294967295)] (i3,c3,ls3))(hB:AbI y s j (ls2.set (j+m) (d%4294967296)) i3 c3 ls3)=>have hv19:=(show i3≤137438953472 from hb16.1);have hv20:=(show c3≤1 from hb16.2.1);have hv21:=(show∀u∈ls3,u≤4294967295 from hb16.2.2);have hBl:=hB.hl;have hBi:=hB.hi;have hBc:=hB.hc;have hbg:=(jv (by omega) hB.hu: ∀k,ls3.getD k 0<4294967296);have hbg0:=hbg (i3+j);have hbt:=hbg (j+m);have hbv:=q8 (y*2^s) i3;And.intro (fun(h17:i3<(limbs (y*2^s)).length)=>I (by omega:i3<(limbs (y*2^s)).length) (I (by omega:(i3:Int)+z=((i3+j:Nat):Int)) (I (by omega:i3+j<(limbs x).length+1) (I (by omega:i3+j<ls3.length) (I (by omega:(i3:Int)+z=((i3+j:Nat):Int)) (I (by omega:i3+j<(limbs x).length+1) (I (by omega:i3+j<ls3.length) (I (show(i3+1)≤137438953472 by omega:Bnd (.nat .i64) (.n 137438953472) (i3+1)) (And.intro (hB.step (by omega) (by omega) rfl:AbI y s j (ls2.set (j+m) (d%4294967296)) (i3+1) ((c3+((ls3.getD (i3+j) 0)+((limbs (y*2^s)).getD i3 0)))/2^32) (ls3.set (i3+j) ((c3+((ls3.getD (i3+j) 0)+((limbs (y*2^s)).getD i3 0)))%4294967296))) (by omega:(limbs (y*2^s)).length-(i3+1)<(limbs (y*2^s)).length-i3)))))))))) (fun(h18: ¬(i3<(limbs (y*2^s)).length))=>have hB1:=(show i3=m by omega)▸hB;I (by omega:z+(m:Int)=((j+m:Nat):Int)) (I (by omega:j+m<(limbs x).length+1) (I (by omega:j+m<ls3.length) (I (Ge _ _:qw .add .u32 ((ls3.getD (j+m) 0:Nat):Int) (c3:Int) ((((ls3.getD (j+m) 0)+c3)%4294967296:Nat):Int)) (I (by omega:((ls3.getD (j+m) 0)+c3)%4294967296≤4294967295) (I (by omega:z+(m:Int)=((j+m:Nat):Int)) (I (by omega:j+m<(limbs x).length+1) (I (by omega:j+m<ls3.length) (have hA:=AbI.top' hB1 (by omega) (by omega);I (by omega:z=(j:Int)) (I (by omega:j<((limbs x).length+1) -m) (I (by omega:j<ql.length) (I (show Int.natAbs (z-1)≤1099511627776 by omega:Bnd (.int .i64) (.n 1099511627776) (z-1)) (And.intro (by subst hm;first|exact DivZ.of hz0 hj (hD1.even hC hG hT4 hT5 hT3 (by rw[show d/9223372036854775808=0 by omega,Nat.mul_zero,Nat.add_zero]at hT1;exact hT1))|exact DivZ.of hz0 hj (hA.elim fun c2 hA=>hD1.odd hC hG hT4 hT5 hT3 hT1 hA.2.2.1 hA.2.2.2 hA.2.1 hA.1):DivZ x y s (z-1) (ls3.set (j+m) (((ls3.getD (j+m) 0)+c3)%4294967296)) (ql.set j (((q-1) -1)%4294967296))) (by omega:((z-1)+1).toNat<(z+1).toNat))))))))))))))))) (fun(h22: ¬(d/2^63≠0))=>I (by omega:z=(j:Int)) (I (by omega:j<((limbs x).length+1) -m) (I (by omega:j<ql.length) (I (show Int.natAbs (z-1)≤1099511627776 by omega:Bnd (.int .i64) (.n 1099511627776) (z-1)) (And.intro (by subst hm;first|exact DivZ.of hz0 hj (hD1.even hC hG hT4 hT5 hT3 (by rw[show d/9223372036854775808=0 by omega,Nat.mul_zero,Nat.add_zero]at hT1;exact hT1))|exact DivZ.of hz0 hj (hA.elim fun c2 hA=>hD1.odd hC hG hT4 hT5 hT3 hT1 hA.2.2.1 hA.2.2.2 hA.2.1 hA.1):DivZ x y s (z-1) (ls2.set (j+m) (d%4294967296)) (ql.set j ((q-1)%4294967296))) (by omega:((z-1)+1).toNat<(z+1).toNat)))))))))) (dif (dif (ls2.getD (j+m) 0) k) b) rfl)))))))))) (fun(h27: ¬(4294967296≤r+((limbs (y*2^s)).getD (m-1) 0)))=>I (show(r+((limbs (y*2^s)).getD (m-1) 0))≤4294967295 by omega:Bnd (.nat .u64) (.n 4294967295) (r+((limbs (y*2^s)).getD (m-1) 0))) (And.intro (by subst hm;exact hE.step hC hD1 hTest (by omega):Est x y s j out (q-1) (r+((limbs (y*2^s)).getD (m-1) 0))) (by omega:q-1<q))))))) (fun(h28: ¬(4294967296≤q))=>I (by omega:2≤m) (I (by omega:m-2<(limbs (y*2^s)).length) (I (by omega:(z+(m:Int)) -2=((j+m-2:Nat):Int)) (I (by omega:j+m-2<(limbs x).length+1) (I (by omega:j+m-2<out.length) (I (AD _ 32 rfl (hg _) (by have:=hg (j+m-2);omega):qw .or .u64 ((r*2^32:Nat):Int) ((out.getD (j+m-2) 0:Nat):Int) (((r*2^32)+(out.getD (j+m-2) 0):Nat):Int)) (I (by have:=hg (j+m-2);omega:(r*2^32)+(out.getD (j+m-2) 0)≤18446744073709551615) (And.intro (fun(h29:(r*2^32)+(out.getD (j+m-2) 0)<q*((limbs (y*2^s)).getD (m-2) 0))=>have hTest:=(show 4294967296≤q∨r*4294967296+out.getD (j+m-2) 0<q*(limbs (y*2^s)).getD (m-2) 0 from by first|exact .inl (by omega)|exact .inr (by omega));have hq1:=(show 1≤q from by subst hm;exact(hE.less hC hD1 hTest).2);I (by omega:1≤q) (I (by omega:1≤m) (I (by omega:m-1<(limbs (y*2^s)).length) (And.intro (fun(h30:4294967296≤r+((limbs (y*2^s)).getD (m-1) 0))=>have hG:=(show Dig x y s j out (q-1)from by subst hm;first|exact hE.brk hC hD1 hTest (by omega)|exact hE.fin hC hD1 (by omega) (by omega));I (MsI.start hD1.hu:MsI y s j (q-1) out 0 0 0 out) (fun(i2:Nat)(b:Nat)(k:Nat)(ls2:List Nat)(hb31:HB [.s 156 (.nat .i64) (.n 137438953472),.s 17 (.nat .u64) (.n 1),.s 18 (.nat .u64) (.n 4294967295),.bk 66 (.nat .u32) (.n 4294967295)] (i2,b,k,ls2))(hM:MsI y s j (q-1) out i2 k b ls2)=>have hv42:=(show i2≤137438953472 from hb31.1);have hv43:=(show b≤1 from hb31.2.1);have hv44:=(show k≤4294967295 from hb31.2.2.1);have hv45:=(show∀u∈ls2,u≤4294967295 from hb31.2.2.2);have hMl:=hM.hl;have hMi:=hM.hi;have hMk:=hM.hk;have hMb:=hM.hb;have hGq:=hG.hq;have hmg:=(jv (by omega) hM.hu: ∀k,ls2.getD k 0<4294967296);have hmg0:=hmg (i2+j);have hmt:=hmg (j+m);have hmv:=q8 (y*2^s) i2;have hmm:=(Nat.mul_le_mul (by omega) (by omega):(q-1)*(limbs (y*2^s)).getD i2 0≤4294967295*4294967295);And.intro (fun(h32:i2<(limbs (y*2^s)).length)=>I (by omega:i2<(limbs (y*2^s)).length) (I (In (by omega):qw .add .u64 (k:Int) (((q-1)*((limbs (y*2^s)).getD i2 0):Nat):Int) ((k+((q-1)*((limbs (y*2^s)).getD i2 0)):Nat):Int)) (I (by omega:k+((q-1)*((limbs (y*2^s)).getD i2 0))≤18446744073709551615) (I (by omega:(i2:Int)+z=((i2+j:Nat):Int)) (I (by omega:i2+j<(limbs x).length+1) (I (by omega:i2+j<ls2.length) (I (Io (by omega):qw .and .u64 ((k+((q-1)*((limbs (y*2^s)).getD i2 0)):Nat):Int) 4294967295 (((k+((q-1)*((limbs (y*2^s)).getD i2 0)))%4294967296:Nat):Int)) (I (by omega:(k+((q-1)*((limbs (y*2^s)).getD i2 0)))%4294967296≤4294967295) (I (v8 (by first|omega|exact vt) (by omega):qw .sub .u64 ((ls2.getD (i2+j) 0:Nat):Int) (((k+((q-1)*((limbs (y*2^s)).getD i2 0)))%4294967296:Nat):Int) ((dif (ls2.getD (i2+j) 0) ((k+((q-1)*((limbs (y*2^s)).getD i2 0)))%4294967296):Nat):Int)) (I (jN _ _:dif (ls2.getD (i2+j) 0) ((k+((q-1)*((limbs (y*2^s)).getD i2 0)))%4294967296)≤18446744073709551615) (I (v8 (by first|omega|exact vt) (by omega):qw .sub .u64 ((dif (ls2.getD (i2+j) 0) ((k+((q-1)*((limbs (y*2^s)).getD i2 0)))%4294967296):Nat):Int) (b:Int) ((dif (dif (ls2.getD (i2+j) 0) ((k+((q-1)*((limbs (y*2^s)).getD i2 0)))%4294967296)) b:Nat):Int)) (I (jN _ _:dif (dif (ls2.getD (i2+j) 0) ((k+((q-1)*((limbs (y*2^s)).getD i2 0)))%4294967296)) b≤18446744073709551615) (I (by omega:(i2:Int)+z=((i2+j:Nat):Int)) (I (by omega:i2+j<(limbs x).length+1) (I (by omega:i2+j<ls2.length) (I (show(i2+1)≤137438953472 by omega:Bnd (.nat .i64) (.n 137438953472) (i2+1)) (And.intro ((hM.step (by omega) (by omega) hG.hq rfl rfl).1:MsI y s j (q-1) out (i2+1) ((k+((q-1)*((limbs (y*2^s)).getD i2 0)))/2^32) ((dif (dif (ls2.getD (i2+j) 0) ((k+((q-1)*((limbs (y*2^s)).getD i2 0)))%4294967296)) b)/2^63) (ls2.set (i2+j) ((dif (dif (ls2.getD (i2+j) 0) ((k+((q-1)*((limbs (y*2^s)).getD i2 0)))%4294967296)) b)%4294967296))) (by omega:(limbs (y*2^s)).length-(i2+1)<(limbs (y*2^s)).length-i2)))))))))))))))))) (fun(h33: ¬(i2<(limbs (y*2^s)).length))=>have hM1:=(show i2=m by omega)▸hM;I (by omega:z+(m:Int)=((j+m:Nat):Int)) (I (by omega:j+m<(limbs x).length+1) (I (by omega:j+m<ls2.length) (I (v8 (by first|omega|exact vt) (by omega):qw .sub .u64 ((ls2.getD (j+m) 0:Nat):Int) (k:Int) ((dif (ls2.getD (j+m) 0) k:Nat):Int)) (I (jN _ _:dif (ls2.getD (j+m) 0) k≤18446744073709551615) (I (v8 (by first|omega|exact vt) (by omega):qw .sub .u64 ((dif (ls2.getD (j+m) 0) k:Nat):Int) (b:Int) ((dif (dif (ls2.getD (j+m) 0) k) b:Nat):Int)) (I (jN _ _:dif (dif (ls2.getD (j+m) 0) k) b≤18446744073709551615) ((fun(d:Nat)(hd:d=dif (dif (ls2.getD (j+m) 0) k) b)=>I (by omega:z+(m:Int)=((j+m:Nat):Int)) (I (by omega:j+m<(limbs x).length+1) (I (by omega:j+m<ls2.length) (have hT:=MsI.top hM1 (by omega) (by omega) hd;have hT1:=hT.1;have hT2:=hT.2.1;have hT3:=hT.2.2.1;have hT4:=hT.2.2.2.1;have hT5:=hT.2.2.2.2;And.intro (fun(h34:d/2^63≠0)=>have hd1:=(show d/9223372036854775808=1 by omega);have hT1:=(show _ from by rw[hd1]at hT1;exact hT1);have hq1:=(show 1≤(q-1)from by subst hm;exact Dig.pos hC hD1 hT4 hT5 hT1);I (by omega:1≤q-1) (I (AbI.start hT5:AbI y s j (ls2.set (j+m) (d%4294967296)) 0 0 (ls2.set (j+m) (d%4294967296))) (fun(i3:Nat)(c3:Nat)(ls3:List Nat)(hb35:HB [.s 216 (.nat .i64) (.n 137438953472),.s 18 (.nat .u64) (.n 1),.bk 66 (.nat .u32) (.n 4294967295)] (i3,c3,ls3))(hB:AbI y s j (ls2.set (j+m) (d%4294967296)) i3 c3 ls3)=>have hv38:=(show i3≤137438953472 from hb35.1);have hv39:=(show c3≤1 from hb35.2.1);have hv40:=(show∀u∈ls3,u≤4294967295 from hb35.2.2);have hBl:=hB.hl;have hBi:=hB.hi;have hBc:=hB.hc;have hbg:=(jv (by omega) hB.hu: ∀k,ls3.getD k 0<4294967296);have hbg0:=hbg (i3+j);have hbt:=hbg (j+m);have hbv:=q8 (y*2^s) i3;And.intro (fun(h36:i3<(limbs (y*2^s)).length)=>I (by omega:i3<(limbs (y*2^s)).length) (I (by omega:(i3:Int)+z=((i3+j:Nat):Int)) (I (by omega:i3+j<(limbs x).length+1) (I (by omega:i3+j<ls3.length) (I (by omega:(i3:Int)+z=((i3+j:Nat):Int)) (I (by omega:i3+j<(limbs x).length+1) (I (by omega:i3+j<ls3.length) (I (show(i3+1)≤137438953472 by omega:Bnd (.nat .i64) (.n 137438953472) (i3+1)) (And.intro (hB.step (by omega) (by omega) rfl:AbI y s j (ls2.set (j+m) (d%4294967296)) (i3+1) ((c3+((ls3.getD (i3+j) 0)+((limbs (y*2^s)).getD i3 0)))/2^32) (ls3.set (i3+j) ((c3+((ls3.getD (i3+j) 0)+((limbs (y*2^s)).getD i3 0)))%4294967296))) (by omega:(limbs (y*2^s)).length-(i3+1)<(limbs (y*2^s)).length-i3)))))))))) (fun(h37: ¬(i3<(limbs (y*2^s)).length))=>have hB1:=(show i3=m by omega)▸hB;I (by omega:z+(m:Int)=((j+m:Nat):Int)) (I (by omega:j+m<(limbs x).length+1) (I (by omega:j+m<ls3.length) (I (Ge _ _:qw .add .u32 ((ls3.getD (j+m) 0:Nat):Int) (c3:Int) ((((ls3.getD (j+m) 0)+c3)%4294967296:Nat):Int)) (I (by omega:((ls3.getD (j+m) 0)+c3)%4294967296≤4294967295) (I (by omega:z+(m:Int)=((j+m:Nat):Int)) (I (by omega:j+m<(limbs x).length+1) (I (by omega:j+m<ls3.length) (have hA:=AbI.top' hB1 (by omega) (by omega);I (by omega:z=(j:Int)) (I (by omega:j<((limbs x).length+1) -m) (I (by omega:j<ql.length) (I (show Int.natAbs (z-1)≤1099511627776 by omega:Bnd (.int .i64) (.n 1099511627776) (z-1)) (And.intro (by subst hm;first|exact DivZ.of hz0 hj (hD1.even hC hG hT4 hT5 hT3 (by rw[show d/9223372036854775808=0 by omega,Nat.mul_zero,Nat.add_zero]at hT1;exact hT1))|exact DivZ.of hz0 hj (hA.elim fun c2 hA=>hD1.odd hC hG hT4 hT5 hT3 hT1 hA.2.2.1 hA.2.2.2 hA.2.1 hA.1):DivZ x y s (z-1) (ls3.set (j+m) (((ls3.getD (j+m) 0)+c3)%4294967296)) (ql.set j (((q-1) -1)%4294967296))) (by omega:((z-1)+1).toNat<(z+1).toNat))))))))))))))))) (fun(h41: ¬(d/2^63≠0))=>I (by omega:z=(j:Int)) (I (by omega:j<((limbs x).length+1) -m) (I (by omega:j<ql.length) (I (show Int.natAbs (z-1)≤1099511627776 by omega:Bnd (.int .i64) (.n 1099511627776) (z-1)) (And.intro (by subst hm;first|exact DivZ.of hz0 hj (hD1.even hC hG hT4 hT5 hT3 (by rw[show d/9223372036854775808=0 by omega,Nat.mul_zero,Nat.add_zero]at hT1;exact hT1))|exact DivZ.of hz0 hj (hA.elim fun c2 hA=>hD1.odd hC hG hT4 hT5 hT3 hT1 hA.2.2.1 hA.2.2.2 hA.2.1 hA.1):DivZ x y s (z-1) (ls2.set (j+m) (d%4294967296)) (ql.set j ((q-1)%4294967296))) (by omega:((z-1)+1).toNat<(z+1).toNat)))))))))) (dif (dif (ls2.getD (j+m) 0) k) b) rfl)))))))))) (fun(h46: ¬(4294967296≤r+((limbs (y*2^s)).getD (m-1) 0)))=>I (show(r+((limbs (y*2^s)).getD (m-1) 0))≤4294967295 by omega:Bnd (.nat .u64) (.n 4294967295) (r+((limbs (y*2^s)).getD (m-1) 0))) (And.intro (by subst hm;exact hE.step hC hD1 hTest (by omega):Est x y s j out (q-1) (r+((limbs (y*2^s)).getD (m-1) 0))) (by omega:q-1<q))))))) (fun(h47: ¬((r*2^32)+(out.getD (j+m-2) 0)<q*((limbs (y*2^s)).getD (m-2) 0)))=>have hG:=(show Dig x y s j out q from by subst hm;first|exact hE.brk hC hD1 hTest (by omega)|exact hE.fin hC hD1 (by omega) (by omega));I (MsI.start hD1.hu:MsI y s j q out 0 0 0 out) (fun(i2:Nat)(b:Nat)(k:Nat)(ls2:List Nat)(hb48:HB [.s 156 (.nat .i64) (.n 137438953472),.s 17 (.nat .u64) (.n 1),.s 18 (.nat .u64) (.n 4294967295),.bk 66 (.nat .u32) (.n 4294967295)] (i2,b,k,ls2))(hM:MsI y s j q out i2 k b ls2)=>have hv59:=(show i2≤137438953472 from hb48.1);have hv60:=(show b≤1 from hb48.2.1);have hv61:=(show k≤4294967295 from hb48.2.2.1);have hv62:=(show∀u∈ls2,u≤4294967295 from hb48.2.2.2);have hMl:=hM.hl;have hMi:=hM.hi;have hMk:=hM.hk;have hMb:=hM.hb;have hGq:=hG.hq;have hmg:=(jv (by omega) hM.hu: ∀k,ls2.getD k 0<4294967296);have hmg0:=hmg (i2+j);have hmt:=hmg (j+m);have hmv:=q8 (y*2^s) i2;have hmm:=(Nat.mul_le_mul (by omega) (by omega):q*(limbs (y*2^s)).getD i2 0≤4294967295*4294967295);And.intro (fun(h49:i2<(limbs (y*2^s)).length)=>I (by omega:i2<(limbs (y*2^s)).length) (I (In (by omega):qw .add .u64 (k:Int) ((q*((limbs (y*2^s)).getD i2 0):Nat):Int) ((k+(q*((limbs (y*2^s)).getD i2 0)):Nat):Int)) (I (by omega:k+(q*((limbs (y*2^s)).getD i2 0))≤18446744073709551615) (I (by omega:(i2:Int)+z=((i2+j:Nat):Int)) (I (by omega:i2+j<(limbs x).length+1) (I (by omega:i2+j<ls2.length) (I (Io (by omega):qw .and .u64 ((k+(q*((limbs (y*2^s)).getD i2 0)):Nat):Int) 4294967295 (((k+(q*((limbs (y*2^s)).getD i2 0)))%4294967296:Nat):Int)) (I (by omega:(k+(q*((limbs (y*2^s)).getD i2 0)))%4294967296≤4294967295) (I (v8 (by first|omega|exact vt) (by omega):qw .sub .u64 ((ls2.getD (i2+j) 0:Nat):Int) (((k+(q*((limbs (y*2^s)).getD i2 0)))%4294967296:Nat):Int) ((dif (ls2.getD (i2+j) 0) ((k+(q*((limbs (y*2^s)).getD i2 0)))%4294967296):Nat):Int)) (I (jN _ _:dif (ls2.getD (i2+j) 0) ((k+(q*((limbs (y*2^s)).getD i2 0)))%4294967296)≤18446744073709551615) (I (v8 (by first|omega|exact vt) (by omega):qw .sub .u64 ((dif (ls2.getD (i2+j) 0) ((k+(q*((limbs (y*2^s)).getD i2 0)))%4294967296):Nat):Int) (b:Int) ((dif (dif (ls2.getD (i2+j) 0) ((k+(q*((limbs (y*2^s)).getD i2 0)))%4294967296)) b:Nat):Int)) (I (jN _ _:dif (dif (ls2.getD (i2+j) 0) ((k+(q*((limbs (y*2^s)).getD i2 0)))%4294967296)) b≤18446744073709551615) (I (by omega:(i2:Int)+z=((i2+j:Nat):Int)) (I (by omega:i2+j<(limbs x).length+1) (I (by omega:i2+j<ls2.length) (I (show(i2+1)≤137438953472 by omega:Bnd (.nat .i64) (.n 137438953472) (i2+1)) (And.intro ((hM.step (by omega) (by omega) hG.hq rfl rfl).1:MsI y s j q out (i2+1) ((k+(q*((limbs (y*2^s)).getD i2 0)))/2^32) ((dif (dif (ls2.getD (i2+j) 0) ((k+(q*((limbs (y*2^s)).getD i2 0)))%4294967296)) b)/2^63) (ls2.set (i2+j) ((dif (dif (ls2.getD (i2+j) 0) ((k+(q*((limbs (y*2^s)).getD i2 0)))%4294967296)) b)%4294967296))) (by omega:(limbs (y*2^s)).length-(i2+1)<(limbs (y*2^s)).length-i2)))))))))))))))))) (fun(h50: ¬(i2<(limbs (y*2^s)).length))=>have hM1:=(show i2=m by omega)▸hM;I (by omega:z+(m:Int)=((j+m:Nat):Int)) (I (by omega:j+m<(limbs x).length+1) (I (by omega:j+m<ls2.length) (I (v8 (by first|omega|exact vt) (by omega):qw .sub .u64 ((ls2.getD (j+m) 0:Nat):Int) (k:Int) ((dif (ls2.getD (j+m) 0) k:Nat):Int)) (I (jN _ _:dif (ls2.getD (j+m) 0) k≤18446744073709551615) (I (v8 (by first|omega|exact vt) (by omega):qw .sub .u64 ((dif (ls2.getD (j+m) 0) k:Nat):Int) (b:Int) ((dif (dif (ls2.getD (j+m) 0) k) b:Nat):Int)) (I (jN _ _:dif (dif (ls2.getD (j+m) 0) k) b≤18446744073709551615) ((fun(d:Nat)(hd:d=dif (dif (ls2.getD (j+m) 0) k) b)=>I (by omega:z+(m:Int)=((j+m:Nat):Int)) (I (by omega:j+m<(limbs x).length+1) (I (by omega:j+m<ls2.length) (have hT:=MsI.top hM1 (by omega) (by omega) hd;have hT1:=hT.1;have hT2:=hT.2.1;have hT3:=hT.2.2.1;have hT4:=hT.2.2.2.1;have hT5:=hT.2.2.2.2;And.intro (fun(h51:d/2^63≠0)=>have hd1:=(show d/9223372036854775808=1 by omega);have hT1:=(show _ from by rw[hd1]at hT1;exact hT1);have hq1:=(show 1≤q from by subst hm;exact Dig.pos hC hD1 hT4 hT5 hT1);I (by omega:1≤q) (I (AbI.start hT5:AbI y s j (ls2.set (j+m) (d%4294967296)) 0 0 (ls2.set (j+m) (d%4294967296))) (fun(i3:Nat)(c3:Nat)(ls3:List Nat)(hb52:HB [.s 216 (.nat .i64) (.n 137438953472),.s 18 (.nat .u64) (.n 1),.bk 66 (.nat .u32) (.n 4294967295)] (i3,c3,ls3))(hB:AbI y s j (ls2.set (j+m) (d%4294967296)) i3 c3 ls3)=>have hv55:=(show i3≤137438953472 from hb52.1);have hv56:=(show c3≤1 from hb52.2.1);have hv57:=(show∀u∈ls3,u≤4294967295 from hb52.2.2);have hBl:=hB.hl;have hBi:=hB.hi;have hBc:=hB.hc;have hbg:=(jv (by omega) hB.hu: ∀k,ls3.getD k 0<4294967296);have hbg0:=hbg (i3+j);have hbt:=hbg (j+m);have hbv:=q8 (y*2^s) i3;And.intro (fun(h53:i3<(limbs (y*2^s)).length)=>I (by omega:i3<(limbs (y*2^s)).length) (I (by omega:(i3:Int)+z=((i3+j:Nat):Int)) (I (by omega:i3+j<(limbs x).length+1) (I (by omega:i3+j<ls3.length) (I (by omega:(i3:Int)+z=((i3+j:Nat):Int)) (I (by omega:i3+j<(limbs x).length+1) (I (by omega:i3+j<ls3.length) (I (show(i3+1)≤137438953472 by omega:Bnd (.nat .i64) (.n 137438953472) (i3+1)) (And.intro (hB.step (by omega) (by omega) rfl:AbI y s j (ls2.set (j+m) (d%4294967296)) (i3+1) ((c3+((ls3.getD (i3+j) 0)+((limbs (y*2^s)).getD i3 0)))/2^32) (ls3.set (i3+j) ((c3+((ls3.getD (i3+j) 0)+((limbs (y*2^s)).getD i3 0)))%4294967296))) (by omega:(limbs (y*2^s)).length-(i3+1)<(limbs (y*2^s)).length-i3)))))))))) (fun(h54: ¬(i3<(limbs (y*2^s)).length))=>have hB1:=(show i3=m by omega)▸hB;I (by omega:z+(m:Int)=((j+m:Nat):Int)) (I (by omega:j+m<(limbs x).length+1) (I (by omega:j+m<ls3.length) (I (Ge _ _:qw .add .u32 ((ls3.getD (j+m) 0:Nat):Int) (c3:Int) ((((ls3.getD (j+m) 0)+c3)%4294967296:Nat):Int)) (I (by omega:((ls3.getD (j+m) 0)+c3)%4294967296≤4294967295) (I (by omega:z+(m:Int)=((j+m:Nat):Int)) (I (by omega:j+m<(limbs x).length+1) (I (by omega:j+m<ls3.length) (have hA:=AbI.top' hB1 (by omega) (by omega);I (by omega:z=(j:Int)) (I (by omega:j<((limbs x).length+1) -m) (I (by omega:j<ql.length) (I (show Int.natAbs (z-1)≤1099511627776 by omega:Bnd (.int .i64) (.n 1099511627776) (z-1)) (And.intro (by subst hm;first|exact DivZ.of hz0 hj (hD1.even hC hG hT4 hT5 hT3 (by rw[show d/9223372036854775808=0 by omega,Nat.mul_zero,Nat.add_zero]at hT1;exact hT1))|exact DivZ.of hz0 hj (hA.elim fun c2 hA=>hD1.odd hC hG hT4 hT5 hT3 hT1 hA.2.2.1 hA.2.2.2 hA.2.1 hA.1):DivZ x y s (z-1) (ls3.set (j+m) (((ls3.getD (j+m) 0)+c3)%4294967296)) (ql.set j ((q-1)%4294967296))) (by omega:((z-1)+1).toNat<(z+1).toNat))))))))))))))))) (fun(h58: ¬(d/2^63≠0))=>I (by omega:z=(j:Int)) (I (by omega:j<((limbs x).length+1) -m) (I (by omega:j<ql.length) (I (show Int.natAbs (z-1)≤1099511627776 by omega:Bnd (.int .i64) (.n 1099511627776) (z-1)) (And.intro (by subst hm;first|exact DivZ.of hz0 hj (hD1.even hC hG hT4 hT5 hT3 (by rw[show d/9223372036854775808=0 by omega,Nat.mul_zero,Nat.add_zero]at hT1;exact hT1))|exact DivZ.of hz0 hj (hA.elim fun c2 hA=>hD1.odd hC hG hT4 hT5 hT3 hT1 hA.2.2.1 hA.2.2.2 hA.2.1 hA.1):DivZ x y s (z-1) (ls2.set (j+m) (d%4294967296)) (ql.set j (q%4294967296))) (by omega:((z-1)+1).toNat<(z+1).toNat)))))))))) (dif (dif (ls2.getD (j+m) 0) k) b) rfl))))))))))))))))))))))))))) (((out.getD (j+m) 0)*2^32)+(out.getD (j+m-1) 0)) rfl))))))))) z.toNat rfl) (fun(h65: ¬(0≤z))=>have hF:=hD.fin (by omega);I (by omega:(limbs x).length+1=out.length) (I (DownI.start hF.2.2.2 hDb.2.2.1 rfl:DownI (valL out) s ((limbs x).length+1) 0 out) (fun(i4:Nat)(ls4:List Nat)(hb66:HB [.s 262 (.nat .i64) (.n 1099511627776),.bk 66 (.nat .u32) (.n 4294967295)] (i4,ls4))(hW:DownI (valL out) s ((limbs x).length+1) i4 ls4)=>have hv73:=(show i4≤1099511627776 from hb66.1);have hv74:=(show∀u∈ls4,u≤4294967295 from hb66.2);have hWl:=hW.hl;have hWi:=hW.hi;have hWN:=hW.hN;have hwg:=(jv (by omega) hW.hu: ∀k,ls4.getD k 0<4294967296);And.intro (fun(h67:i4<(limbs (valL out)).length)=>I (by omega:i4<(limbs (valL out)).length) (I (by omega:i4<ls4.length) (I (Ip _ _ (show s≤32 by omega):qw .shr .u32 ((ls4.getD i4 0:Nat):Int) (s:Int) (((ls4.getD i4 0)/2^s:Nat):Int)) (I (Nat.le_trans (Nat.div_le_self _ _) (by have:=hwg i4;omega):(ls4.getD i4 0)/2^s≤4294967295) (I (by omega:i4<(limbs (valL out)).length) (I (by omega:i4<ls4.length) (And.intro (fun(h68:0<s)=>And.intro (fun(h69:i4+1<(limbs (valL out)).length)=>I (by omega:i4<(limbs (valL out)).length) (I (by simp only[List.length_set];omega:i4<(ls4.set i4 ((ls4.getD i4 0)/2^s)).length) (I (by omega:i4+1<(limbs (valL out)).length) (I (by simp only[List.length_set];omega:i4+1<(ls4.set i4 ((ls4.getD i4 0)/2^s)).length) (I (by omega:s≤32) (I (Tg _ _ (by omega):qw .shl .u32 (((ls4.set i4 ((ls4.getD i4 0)/2^s)).getD (i4+1) 0:Nat):Int) ((32-s:Nat):Int) ((((ls4.set i4 ((ls4.getD i4 0)/2^s)).getD (i4+1) 0)*2^(32-s)%4294967296:Nat):Int)) (I (by omega:((ls4.set i4 ((ls4.getD i4 0)/2^s)).getD (i4+1) 0)*2^(32-s)%4294967296≤4294967295) (I ((KJ (by omega) hwg (by omega)).1:qw .or .u32 (((ls4.set i4 ((ls4.getD i4 0)/2^s)).getD i4 0:Nat):Int) ((((ls4.set i4 ((ls4.getD i4 0)/2^s)).getD (i4+1) 0)*2^(32-s)%4294967296:Nat):Int) ((((ls4.set i4 ((ls4.getD i4 0)/2^s)).getD i4 0)+(((ls4.set i4 ((ls4.getD i4 0)/2^s)).getD (i4+1) 0)*2^(32-s)%4294967296):Nat):Int)) (I ((KJ (by omega) hwg (by omega)).2:((ls4.set i4 ((ls4.getD i4 0)/2^s)).getD i4 0)+(((ls4.set i4 ((ls4.getD i4 0)/2^s)).getD (i4+1) 0)*2^(32-s)%4294967296)≤4294967295) (I (by omega:i4<(limbs (valL out)).length) (I (by simp only[List.length_set];omega:i4<(ls4.set i4 ((ls4.getD i4 0)/2^s)).length) (I (show(i4+1)≤1099511627776 by omega:Bnd (.nat .i64) (.n 1099511627776) (i4+1)) (And.intro (by first|exact hW.step1 (by omega) (by omega) (by omega)|exact hW.step2 (by omega) (by omega):DownI (valL out) s ((limbs x).length+1) (i4+1) ((ls4.set i4 ((ls4.getD i4 0)/2^s)).set i4 (((ls4.set i4 ((ls4.getD i4 0)/2^s)).getD i4 0)+(((ls4.set i4 ((ls4.getD i4 0)/2^s)).getD (i4+1) 0)*2^(32-s)%4294967296)))) (by omega:(limbs (valL out)).length-(i4+1)<(limbs (valL out)).length-i4)))))))))))))) (fun(h70: ¬(i4+1<(limbs (valL out)).length))=>I (show(i4+1)≤1099511627776 by omega:Bnd (.nat .i64) (.n 1099511627776) (i4+1)) (And.intro (by first|exact hW.step1 (by omega) (by omega) (by omega)|exact hW.step2 (by omega) (by omega):DownI (valL out) s ((limbs x).length+1) (i4+1) (ls4.set i4 ((ls4.getD i4 0)/2^s))) (by omega:(limbs (valL out)).length-(i4+1)<(limbs (valL out)).length-i4)))) (fun(h71: ¬(0<s))=>I (show(i4+1)≤1099511627776 by omega:Bnd (.nat .i64) (.n 1099511627776) (i4+1)) (And.intro (by first|exact hW.step1 (by omega) (by omega) (by omega)|exact hW.step2 (by omega) (by omega):DownI (valL out) s ((limbs x).length+1) (i4+1) (ls4.set i4 ((ls4.getD i4 0)/2^s))) (by omega:(limbs (valL out)).length-(i4+1)<(limbs (valL out)).length-i4)))))))))) (fun(h72: ¬(i4<(limbs (valL out)).length))=>I (by omega:((limbs x).length+1) -m=ql.length) (I (by omega:(limbs (valL out)).length≤ls4.length) (have hFin:=(DownI.fin' hW (by omega) rfl);I (hF.2.2.1: ∀u∈ql,u<4294967296) (I (hFin.2: ∀u∈ls4.take ((limbs (valL out)).length),u<4294967296) (And.intro (hF.1:valL ql=x/y) (by rw[hFin.1,hF.2.1,Nat.mul_div_cancel _ (Nat.pow_pos (by omega))]:valL (ls4.take ((limbs (valL out)).length))=x%y))))))))))))) ((limbs (y*2^s)).length) hV)))) (32-bl ((limbs y).getD (((limbs y).length) -1) 0)) rfl))))))⟩)
abbrev So:Ctr Tryz.prog:=FI.c q1j
abbrev q1u:FI:=⟨218,[.mag,.mag],[(.n 1099511627776),(.n 1099511627776)],fun _=>[],fun b z=>(fun(x:Nat)(y:Nat)=> .c (.one (.dt .mag (.n (max (b0 b).nb (b1 b).nb)) (Nat.gcd x y)))) z.1 z.2⟩
theorem q1v:q1u.OK Tryz.prog:=mkF hmix 61 Tryz.func218 rfl rfl (by decide) [(209,.c BW),(219,.c So),(220,.c Aa),(259,.c of_c),(262,.c Vk)] (fun(x:Nat)(y:Nat) b hx hp=>qa (L5 (Bnds.h2 hx).1.mag (Bnds.h2 hx).2.mag) rfl) (fun(x:Nat)(y:Nat) hx hp=>by
 have hx0:lt2 x 1099511627776:=hx.1
 have hl0:(limbs x).length≤34359738369:=qg (Nat.le_of_lt hx0)
 have hx1:lt2 y 1099511627776:=hx.2
 have hl1:(limbs y).length≤34359738369:=qg (Nat.le_of_lt hx1)
 refine⟨.loop [.s 5 .mag (.n 1099511627776),.s 6 .mag (.n 1099511627776)] (fun((a,b):Nat×Nat)=>Nat.gcd a b=Nat.gcd x y) (fun((a,b):Nat×Nat)=>b) (fun((a,b):Nat×Nat)=> .cond (.nil) (.cond (.nil) (.cond (.loop [.s 13 (.nat .u64) (.n 18446744073709551615),.s 14 (.nat .u64) (.n 18446744073709551615)] (fun((u,v):Nat×Nat)=>Nat.gcd u v=Nat.gcd x y) (fun((u,v):Nat×Nat)=>v) (fun((u,v):Nat×Nat)=> .nil)) (.loop [.s 13 (.nat .u64) (.n 18446744073709551615),.s 14 (.nat .u64) (.n 18446744073709551615)] (fun((u,v):Nat×Nat)=>Nat.gcd u v=Nat.gcd x y) (fun((u,v):Nat×Nat)=>v) (fun((u,v):Nat×Nat)=> .nil))))),kcast (by kernel_rfl) (I (rfl:Nat.gcd x y=Nat.gcd x y) (fun(a:Nat)(b:Nat)(hb1:HB [.s 5 .mag (.n 1099511627776),.s 6 .mag (.n 1099511627776)] (a,b))(hC:Nat.gcd a b=Nat.gcd x y)=>Sp (2<(limbs b).length) (fun h2=>have hb0:=(show 0<b from Nat.pos_of_ne_zero (fun e=>by have:=nl0.2 e;omega));I (hb0:0<b) (And.intro ((vI a b).trans hC:Nat.gcd b (a%b)=Nat.gcd x y) (Nat.mod_lt _ hb0:a%b<b))) (fun h3=>Sp ((limbs b).length=0) (fun h4=>(by have e:=nl0.1 (show(limbs b).length=0 by omega);rw[e,Nat.gcd_zero_right]at hC;exact hC:a=Nat.gcd x y)) (fun h5=>Sp (2<(limbs a).length) (fun h6=>have hb0:=(show 0<b from Nat.pos_of_ne_zero (fun e=>by have:=nl0.2 e;omega));I (hb0:0<b) (I (?_:(limbs b).length≤2) (I (?_:(limbs (a%b)).length≤2) (I (by first|exact hC|exact(vI a b).trans hC:Nat.gcd b (a%b)=Nat.gcd x y) (fun(u:Nat)(v:Nat)(hb7:HB [.s 13 (.nat .u64) (.n 18446744073709551615),.s 14 (.nat .u64) (.n 18446744073709551615)] (u,v))(hK:Nat.gcd u v=Nat.gcd x y)=>have hv10:=(show u≤18446744073709551615 from hb7.1);have hv11:=(show v≤18446744073709551615 from hb7.2);Sp (v≠0) (fun h8=>I (?_:0<v) (And.intro ((vI u v).trans hK:Nat.gcd v (u%v)=Nat.gcd x y) (Nat.mod_lt _ (by omega):u%v<v))) (fun h9=>(by rw[show v=0 by omega,Nat.gcd_zero_right]at hK;exact hK:u=Nat.gcd x y))))))) (fun h12=>I (?_:(limbs a).length≤2) (I (?_:(limbs b).length≤2) (I (by first|exact hC|exact(vI a b).trans hC:Nat.gcd a b=Nat.gcd x y) (fun(u:Nat)(v:Nat)(hb13:HB [.s 13 (.nat .u64) (.n 18446744073709551615),.s 14 (.nat .u64) (.n 18446744073709551615)] (u,v))(hK:Nat.gcd u v=Nat.gcd x y)=>have hv16:=(show u≤18446744073709551615 from hb13.1);have hv17:=(show v≤18446744073709551615 from hb13.2);Sp (v≠0) (fun h14=>I (?_:0<v) (And.intro ((vI u v).trans hK:Nat.gcd v (u%v)=Nat.gcd x y) (Nat.mod_lt _ (by omega):u%v<v))) (fun h15=>(by rw[show v=0 by omega,Nat.gcd_zero_right]at hK;exact hK:u=Nat.gcd x y))))))))))⟩<;>first|omega|(first|omega|exact Nat.le_trans (jZ (Nat.le_of_lt (Nat.mod_lt a hb0))) (by omega)))
abbrev gcd_c:Ctr Tryz.prog:=FI.c q1v
abbrev q06:FI:=⟨206,[],[],fun _=>[],fun b z=> .c (.one (.dt .mag (.n (1)) (1)))⟩
theorem q07:q06.OK Tryz.prog:=mkF hmix 2 Tryz.func206 rfl rfl (by decide) [] (fun  b hx hp=>qa (Gv rfl) rfl) (fun  hx hp=>by
 refine⟨.h 1 0 (.mk (.im (.nat .u32) (.n 4294967295))) (.h 1 1 (.mag 1 1) (.nil)),kcast (by kernel_rfl) (I (AL.symm:[1]=limbs 1) (I (Gv rfl:lt2 1 1) ((Eq.refl 1))))⟩)
abbrev OT:Ctr Tryz.prog:=FI.c q07
abbrev Wh:FI:=⟨205,[(.int .i64)],[(.n 9223372036854775807)],fun _=>[],fun b z=>(fun(v:Int)=> .c (.one (.dt .mag (.n (Nat.log2 (b0 b).nb+1)) (v.natAbs)))) z⟩
theorem Wi:Wh.OK Tryz.prog:=mkF hmix 12 Tryz.func205 rfl rfl (by decide) [(259,.c of_c)] (fun(v:Int) b hx hp=>qa (zo (Bnds.h1 hx).int) rfl) (fun(v:Int) hx hp=>by
 have hx0:Int.natAbs v≤9223372036854775807:=hx
 refine⟨.cond (.dead) (.h 3 4 (.i (.n v.natAbs 9223372036854775807)) (.nil)),kcast (by kernel_rfl) (Sp (v=(-9223372036854775808)) (fun h1=>(?_:False)) (fun h2=>I (by rw[show max v (-v)=((v.natAbs:Nat):Int) by omega];exact zk (by omega):IntKind.wrap .u64 (max v (-v))=((v.natAbs:Nat):Int)) (I (?_:v.natAbs≤9223372036854775807) ((Eq.refl v.natAbs)))))⟩<;>omega)
abbrev Wg:Ctr Tryz.prog:=FI.c Wi
abbrev ZR:FI:=⟨145,[.rat],[(.n 1099511627776)],fun _=>[],fun b z=>(fun(x:Rat)=> .c (.one (.dt .mag (.n ((b0 b).nb+1)) (x.den)))) z⟩
theorem ZS:ZR.OK Tryz.prog:=mkF hmix 10 Tryz.func145 rfl rfl (by decide) [(206,.c OT)] (fun(x:Rat) b hx hp=>qa (Bx (Bnds.h1 hx).rat.2) rfl) (fun(x:Rat) hx hp=>by
 have hx0:Bnd .rat (.n 1099511627776) x:=hx
 refine⟨.cond (.nil) (.h 3 2 (.mag x.den 1099511627777) (.nil)),kcast (by kernel_rfl) (Sp ((denL x.den).length=0) (fun h1=>((Am x.den_nz (by omega)).symm:1=x.den)) (fun h2=>I (BZ (by omega):denL x.den=limbs x.den) (I (Bx hx0.2:lt2 x.den 1099511627777) ((Eq.refl x.den)))))⟩)
abbrev FL:Ctr Tryz.prog:=FI.c ZS
abbrev ZU:FI:=⟨216,[(.nat .u64),(.nat .u64)],[(.n 18446744073709551615),(.n 18446744073709551615)],fun _=>[],fun b z=>(fun(n:Nat)(d:Nat)=> .c (.one (.dt (.nat .u64) (.n (max (b0 b).nb (b1 b).nb)) (Nat.gcd n d)))) z.1 z.2⟩
theorem ZV:ZU.OK Tryz.prog:=mkF hmix 12 Tryz.func216 rfl rfl (by decide) [] (fun(n:Nat)(d:Nat) b hx hp=>qa (U1 (Bnds.h2 hx).1.nat (Bnds.h2 hx).2.nat) rfl) (fun(n:Nat)(d:Nat) hx hp=>by
 have hx0:n≤18446744073709551615:=hx.1
 have hx1:d≤18446744073709551615:=hx.2
 refine⟨.loop [.s 0 (.nat .u64) (.n 18446744073709551615),.s 1 (.nat .u64) (.n 18446744073709551615)] (fun((u,v):Nat×Nat)=>Nat.gcd u v=Nat.gcd n d) (fun((u,v):Nat×Nat)=>v) (fun((u,v):Nat×Nat)=> .nil),kcast (by kernel_rfl) (I (rfl:Nat.gcd n d=Nat.gcd n d) (fun(u:Nat)(v:Nat)(hb1:HB [.s 0 (.nat .u64) (.n 18446744073709551615),.s 1 (.nat .u64) (.n 18446744073709551615)] (u,v))(hK:Nat.gcd u v=Nat.gcd n d)=>have hv4:=(show u≤18446744073709551615 from hb1.1);have hv5:=(show v≤18446744073709551615 from hb1.2);Sp (v≠0) (fun h2=>I (?_:0<v) (And.intro ((vI u v).trans hK:Nat.gcd v (u%v)=Nat.gcd n d) (Nat.mod_lt _ (by omega):u%v<v))) (fun h3=>(by rw[show v=0 by omega,Nat.gcd_zero_right]at hK;exact hK:u=Nat.gcd n d))))⟩<;>omega)
abbrev ZT:Ctr Tryz.prog:=FI.c ZV
abbrev Rg:FV:=⟨217,false,(.nat .u32),(.n 4294967295),1099511627776,[(.nat .u64)],[(.n 18446744073709551615)],fun l lo n cap z=>(fun(v:Nat)=>[2≤n,lo+2≤l.length,v≤18446744073709551615]) z,fun k b l lo n cap z=>(fun(v:Nat)=> .c (.one (.dt (.nat .i64) (.n 2) (nlw v)))) z,fun l lo n cap z=>(fun(v:Nat)=>putW l lo v) z⟩
theorem Rh:Rg.OK Tryz.prog:=mkSl hmix 17 Tryz.func217 rfl rfl (by decide) [] (fun _=>rfl) (fun _ _ _ _ _=>rfl) (fun _ _ _ _ _ _ _=>rfl) (fun _ _ _ _ _ _=>rfl) (fun(l:List Nat)(lo n cap:Nat)(v:Nat) k b hx hs hn(hm:n≤1099511627776) hp=>⟨qa (Jb v).2 rfl,R0 (hp _ (List.mem_cons_of_mem _ (List.mem_cons_of_mem _ List.mem_cons_self))) hs⟩) (fun(l:List Nat)(lo n cap:Nat)(v:Nat) hs hx hn(hm:n≤1099511627776) hp=>by
 have hx0:v≤18446744073709551615:=hx
 have hp0:2≤n:=hp _ (List.mem_cons_self)
 have hp1:lo+2≤l.length:=hp _ (List.mem_cons_of_mem _ (List.mem_cons_self))
 have hp2:v≤18446744073709551615:=hp _ (List.mem_cons_of_mem _ (List.mem_cons_of_mem _ (List.mem_cons_self)))
 refine⟨.nil,kcast (by kernel_rfl) (I (?_:0<n) (I (?_:lo+0<l.length) (Sp (v/2^32=0) (fun h1=>And.intro (by rw[putW,if_pos (by assumption)]:l.set (lo+0) (v%4294967296)=putW l lo v) ((by rw[nlw,if_pos (by assumption)]:1=nlw v))) (fun h2=>I (?_:1<n) (I (by simp only[List.length_set];omega:lo+1<(l.set (lo+0) (v%4294967296)).length) (And.intro (by rw[putW,if_neg (by assumption)]:(l.set (lo+0) (v%4294967296)).set (lo+1) (v/2^32)=putW l lo v) ((by rw[nlw,if_neg (by assumption)]:2=nlw v))))))))⟩<;>omega)
abbrev Rf:CtrS Tryz.prog:=FV.c Rh
abbrev Wz:FI:=⟨142,[.bool,(.nat .u64),(.nat .u64)],[.u,(.n 18446744073709551615),(.n 18446744073709551615)],fun z=>(fun(neg:Bool)(n:Nat)(d:Nat)=>[0<d]) z.1 z.2.1 z.2.2,fun b z=>(fun(neg:Bool)(n:Nat)(d:Nat)=> .c (.agg [.dt .rat (.n (max (Nat.log2 (b1 b).nb+1) (Nat.log2 (b2 b).nb+1))) (sgQ neg n d)])) z.1 z.2.1 z.2.2⟩
theorem WD:Wz.OK Tryz.prog:=mkF hmix 50 Tryz.func142 rfl rfl (by decide) [(216,.c ZT),(217,.s Rf)] (fun(neg:Bool)(n:Nat)(d:Nat) b hx hp=>jb (qt (q9 (Nat.le_max_left _ _) (zo (Bnds.h3 hx).2.1.nat)) (qx (q9 (Nat.le_max_right _ _) (zo (Bnds.h3 hx).2.2.nat))) (hp _ List.mem_cons_self))) (fun(neg:Bool)(n:Nat)(d:Nat) hx hp=>by
 have hx1:n≤18446744073709551615:=hx.2.1
 have hx2:d≤18446744073709551615:=hx.2.2
 have hp0:0<d:=hp _ (List.mem_cons_self)
 refine⟨.cond (.nil) ((fun(g:Nat)=>(fun(n1:Nat)=>(fun(d1:Nat)=> .h 5 0 (.mk (.arr (.nat .u32) (.n 4294967295))) ((fun(a:Nat)=> .cond ((fun(b:Nat)=> .pre 11 (.frz 24 false []) (.h 11 0 (.rat (sgQ neg n d) 64) (.nil))) (a+(nlw d1))) (.pre 11 (.frz 24 false []) (.h 11 0 (.rat (sgQ neg n d) 64) (.nil)))) (nlw n1))) (d/g)) (n/g)) (Nat.gcd n d)),kcast (by kernel_rfl) (And.intro (fun(h1:n=0)=>(by rw[show n=0 by omega,Cq]:0=sgQ neg n d)) (fun(h2: ¬(n=0))=>(fun(g:Nat)(hg:g=Nat.gcd n d)=>have hg0:=(show 0<g from hg▸Nat.gcd_pos_of_pos_right _ hp0);I (by omega:0<g) (I (by omega:0<g) ((fun(n1:Nat)(hn1:n1=n/g)=>(fun(d1:Nat)(hd1:d1=d/g)=>have hn0:=(show 0<n1 from by rw[hn1,hg];exact Nat.div_pos (Nat.gcd_le_left _ (by omega)) (hg▸hg0));have hd0:=(show 0<d1 from by rw[hd1,hg];exact Nat.div_pos (Nat.gcd_le_right _ (by omega)) (hg▸hg0));have hn9:=(show n1≤18446744073709551615 from by rw[hn1];exact Nat.le_trans (Nat.div_le_self _ _) hx1);have hd9:=(show d1≤18446744073709551615 from by rw[hd1];exact Nat.le_trans (Nat.div_le_self _ _) hx2);I (by omega:2≤4) (I (by simp:0+2≤(List.replicate 4 (0:Nat)).length) (I (by omega:n1≤18446744073709551615) ((fun(a:Nat)(ha:a=nlw n1)=>have ha1:=(show 1≤a∧a≤2 from by rw[ha];exact Jb n1);have hL:=(show(putW (List.replicate 4 (0:Nat)) 0 n1).length=4 from Jp _ _ _);I (by omega:a≤4) (I (by omega:a=a) (And.intro (fun(h3:1<d1)=>I (by omega:a≤4) (I (by omega:a<4) (I (by omega:2≤4-a) (I (by omega:a+2≤(putW (List.replicate 4 (0:Nat)) 0 n1).length) (I (by omega:d1≤18446744073709551615) ((fun(b:Nat)(hb:b=a+(nlw d1))=>have hb1:=Jb d1;have hL2:=(show(putW (putW (List.replicate 4 (0:Nat)) 0 n1) a d1).length=4 from(Jp _ _ _).trans hL);I (by omega:a<b) (I (by omega:b≤4) (I (by omega:b=b) (I (by omega:a≤(putW (putW (List.replicate 4 (0:Nat)) 0 n1) a d1).length) (I (by omega:a+(b-a)≤(putW (putW (List.replicate 4 (0:Nat)) 0 n1) a d1).length) (I ((j4 (by omega) hp0).symm:neg=decide ((sgQ neg n d).num<0)) (I (by rw[qO hp0,←hg,←hn1];subst ha;first|exact Jz hn0 hn9|exact Lt hn0 hn9:(putW (putW (List.replicate 4 (0:Nat)) 0 n1) a d1).take a=limbs ((sgQ neg n d).num.natAbs)) (I (by rw[(qG hp0).2,←hg,←hd1,denL,if_neg (by omega)];subst hb ha;exact Wy hd0 hd9:((putW (putW (List.replicate 4 (0:Nat)) 0 n1) a d1).drop a).take (b-a)=denL (sgQ neg n d).den) (I (by rw[qO hp0,←hg,←hn1];exact Nat.lt_of_le_of_lt hn9 (by decide):lt2 (sgQ neg n d).num.natAbs 64) (I (by rw[(qG hp0).2,←hg,←hd1];exact Nat.le_trans hd9 (by decide):le2 (sgQ neg n d).den 64) ((Eq.refl (sgQ neg n d))))))))))))) (a+(nlw d1)) rfl)))))) (fun(h4: ¬(1<d1))=>I (by omega:a≤(putW (List.replicate 4 (0:Nat)) 0 n1).length) (I ((j4 (by omega) hp0).symm:neg=decide ((sgQ neg n d).num<0)) (I (by rw[qO hp0,←hg,←hn1];subst ha;first|exact Jz hn0 hn9|exact Lt hn0 hn9:(putW (List.replicate 4 (0:Nat)) 0 n1).take a=limbs ((sgQ neg n d).num.natAbs)) (I (by rw[(qG hp0).2,←hg,←hd1];omega:(sgQ neg n d).den=1) (I (by rw[qO hp0,←hg,←hn1];exact Nat.lt_of_le_of_lt hn9 (by decide):lt2 (sgQ neg n d).num.natAbs 64) (I (by rw[(qG hp0).2,←hg,←hd1];exact Nat.le_trans hd9 (by decide):le2 (sgQ neg n d).den 64) ((Eq.refl (sgQ neg n d)))))))))))) (nlw n1) rfl)))) (d/g) rfl) (n/g) rfl))) (Nat.gcd n d) rfl))⟩)
abbrev Eb:Ctr Tryz.prog:=FI.c WD
abbrev Vr:FI:=⟨141,[.rat],[(.n 1099511627776)],fun _=>[],fun b z=>(fun(x:Rat)=> .tup [.one (.dt (.nat .u64) (.n 4294967295) (pn x)),.one (.dt (.nat .u64) (.n 4294967295) (pd x)),.one (.dt .bool .u (pb x))]) z⟩
theorem Vs:Vr.OK Tryz.prog:=mkF hmix 30 Tryz.func141 rfl rfl (by decide) [(215,.c Lm)] (fun(x:Rat) b hx hp=>qu (qa (FH x) rfl) (qu (qa (FG x) rfl) (qu (qa trivial rfl) jh))) (fun(x:Rat) hx hp=>by
 refine⟨.nil,kcast (by kernel_rfl) (Sp (1<(limbs x.num.natAbs).length) (fun h1=>And.intro ((E2 (by first|exact .inl (by assumption)|exact .inr (by assumption))).1:0=pn x) (And.intro ((E2 (by first|exact .inl (by assumption)|exact .inr (by assumption))).2.1:0=pd x) ((E2 (by first|exact .inl (by assumption)|exact .inr (by assumption))).2.2:false=pb x))) (fun h2=>Sp (1<(denL x.den).length) (fun h3=>And.intro ((E2 (by first|exact .inl (by assumption)|exact .inr (by assumption))).1:0=pn x) (And.intro ((E2 (by first|exact .inl (by assumption)|exact .inr (by assumption))).2.1:0=pd x) ((E2 (by first|exact .inl (by assumption)|exact .inr (by assumption))).2.2:false=pb x))) (fun h4=>have hs:=p_sm (x:=x) (by unfold bigQ;omega);Sp ((denL x.den).length=1) (fun h5=>I (?_:0<(denL x.den).length) (I (?_:(limbs x.num.natAbs).length≤2) (And.intro (hs.1:x.num.natAbs=pn x) (And.intro (by have:=hs.2.1;have:= @Nh x.den (by omega);omega:(denL x.den).getD 0 0=pd x) (by rw[hs.2.2];have:= @Nh x.den (by omega);have:=x.den_nz;exact decide_eq_true (by omega):decide ((denL x.den).getD 0 0≠0)=pb x))))) (fun h6=>I (?_:(limbs x.num.natAbs).length≤2) (And.intro (hs.1:x.num.natAbs=pn x) (And.intro (by rw[←hs.2.1];exact(Am x.den_nz (by omega)).symm:1=pd x) (by rw[hs.2.2]:true=pb x)))))))⟩<;>omega)
abbrev E4:Ctr Tryz.prog:=FI.c Vs
abbrev Rc:FI:=⟨143,[.bool,.mag,.mag],[.u,(.n 1099511627776),(.n 1099511627776)],fun _=>[],fun b z=>(fun(neg:Bool)(n:Nat)(d:Nat)=> .c (.agg [.dt .rat (.n (max (b1 b).nb (b2 b).nb)) (sgQ neg n d)])) z.1 z.2.1 z.2.2⟩
theorem Re:Rc.OK Tryz.prog:=mkF hmix 68 Tryz.func143 rfl rfl (by decide) [(142,.c Eb),(212,.c add_c),(214,.c N5),(215,.c Lm),(218,.c gcd_c),(219,.c So)] (fun(neg:Bool)(n:Nat)(d:Nat) b hx hp=>jb (EQ (q9 (Nat.le_max_left _ _) (Bnds.h3 hx).2.1.mag) (q9 (Nat.le_max_right _ _) (Bnds.h3 hx).2.2.mag))) (fun(neg:Bool)(n:Nat)(d:Nat) hx hp=>by
 have hx1:lt2 n 1099511627776:=hx.2.1
 have hl1:(limbs n).length≤34359738369:=qg (Nat.le_of_lt hx1)
 have hx2:lt2 d 1099511627776:=hx.2.2
 have hl2:(limbs d).length≤34359738369:=qg (Nat.le_of_lt hx2)
 refine⟨.cond (.nil) (.cond (.nil) (.cond (.cond (.nil) ((fun(g:Nat)=> .cond (.cond (.cond (.h 12 3 (.rat (sgQ neg n d) 1099511627776) (.nil)) (.h 12 3 (.rat (sgQ neg n d) 1099511627776) (.nil))) (.h 12 3 (.rat (sgQ neg n d) 1099511627776) (.nil))) (.cond (.cond (.h 12 3 (.rat (sgQ neg n d) 1099511627776) (.nil)) (.h 12 3 (.rat (sgQ neg n d) 1099511627776) (.nil))) (.h 12 3 (.rat (sgQ neg n d) 1099511627776) (.nil)))) (Nat.gcd n d))) ((fun(g:Nat)=> .cond (.cond (.cond (.h 12 3 (.rat (sgQ neg n d) 1099511627776) (.nil)) (.h 12 3 (.rat (sgQ neg n d) 1099511627776) (.nil))) (.h 12 3 (.rat (sgQ neg n d) 1099511627776) (.nil))) (.cond (.cond (.h 12 3 (.rat (sgQ neg n d) 1099511627776) (.nil)) (.h 12 3 (.rat (sgQ neg n d) 1099511627776) (.nil))) (.h 12 3 (.rat (sgQ neg n d) 1099511627776) (.nil)))) (Nat.gcd n d)))),kcast (by kernel_rfl) (And.intro (fun(h1:bl n=0)=>(by first|rw[zU.1 (show bl n=0 by omega),Cq]|rw[zU.1 (show bl d=0 by omega),BJ]:0=sgQ neg n d)) (fun(h2: ¬(bl n=0))=>And.intro (fun(h3:bl d=0)=>(by first|rw[zU.1 (show bl n=0 by omega),Cq]|rw[zU.1 (show bl d=0 by omega),BJ]:0=sgQ neg n d)) (fun(h4: ¬(bl d=0))=>have hn0:=(show 0<n from Nat.pos_of_ne_zero (mt zU.2 (by omega)));have hd0:=(show 0<d from Nat.pos_of_ne_zero (mt zU.2 (by omega)));And.intro (fun(h5:(limbs n).length≤2)=>And.intro (fun(h6:(limbs d).length≤2)=>I (by omega:(limbs n).length≤2) (I (by omega:(limbs d).length≤2) (I (by omega:0<d) ((Eq.refl (sgQ neg n d)))))) (fun(h7: ¬((limbs d).length≤2))=>(fun(g:Nat)(hg:g=Nat.gcd n d)=>have hg0:=(show 0<g from hg▸Nat.gcd_pos_of_pos_right _ hd0);And.intro (fun(h8:1<bl g)=>I (by omega:0<g) (I (by omega:0<g) (And.intro (fun(h9:(limbs ((d/g)+0)).length=1)=>I (by omega:0<(limbs ((d/g)+0)).length) (And.intro (fun(h10:(limbs ((d/g)+0)).getD 0 0=1)=>I ((j4 hn0 hd0).symm:neg=decide ((sgQ neg n d).num<0)) (I (by rw[qO hd0,←hg];first|rfl|rw[hg1,Nat.div_one];rfl:(n/g)+0=(sgQ neg n d).num.natAbs) (I (by rw[(qG hd0).2,←hg];first|exact v5 (by omega) (by omega)|(rw[hg1,Nat.div_one];exact v5 (by omega) (by omega)):(sgQ neg n d).den=1) (I ((qt (p:=1099511627776) (q9 (by decide) hx1) (qx (q9 (by decide) hx2)) hd0).1:lt2 (sgQ neg n d).num.natAbs 1099511627776) (I ((qt (p:=1099511627776) (q9 (by decide) hx1) (qx (q9 (by decide) hx2)) hd0).2:le2 (sgQ neg n d).den 1099511627776) ((Eq.refl (sgQ neg n d)))))))) (fun(h11: ¬((limbs ((d/g)+0)).getD 0 0=1))=>I ((j4 hn0 hd0).symm:neg=decide ((sgQ neg n d).num<0)) (I (by rw[qO hd0,←hg];first|rfl|rw[hg1,Nat.div_one];rfl:(n/g)+0=(sgQ neg n d).num.natAbs) (I (jI (by rw[(qG hd0).2,←hg];first|rfl|rw[hg1,Nat.div_one];rfl) (by omega):limbs ((d/g)+0)=denL (sgQ neg n d).den) (I ((qt (p:=1099511627776) (q9 (by decide) hx1) (qx (q9 (by decide) hx2)) hd0).1:lt2 (sgQ neg n d).num.natAbs 1099511627776) (I ((qt (p:=1099511627776) (q9 (by decide) hx1) (qx (q9 (by decide) hx2)) hd0).2:le2 (sgQ neg n d).den 1099511627776) ((Eq.refl (sgQ neg n d)))))))))) (fun(h12: ¬((limbs ((d/g)+0)).length=1))=>I ((j4 hn0 hd0).symm:neg=decide ((sgQ neg n d).num<0)) (I (by rw[qO hd0,←hg];first|rfl|rw[hg1,Nat.div_one];rfl:(n/g)+0=(sgQ neg n d).num.natAbs) (I (jI (by rw[(qG hd0).2,←hg];first|rfl|rw[hg1,Nat.div_one];rfl) (by omega):limbs ((d/g)+0)=denL (sgQ neg n d).den) (I ((qt (p:=1099511627776) (q9 (by decide) hx1) (qx (q9 (by decide) hx2)) hd0).1:lt2 (sgQ neg n d).num.natAbs 1099511627776) (I ((qt (p:=1099511627776) (q9 (by decide) hx1) (qx (q9 (by decide) hx2)) hd0).2:le2 (sgQ neg n d).den 1099511627776) ((Eq.refl (sgQ neg n d))))))))))) (fun(h13: ¬(1<bl g))=>have hg1:=(N7 hg0 (by omega):g=1);And.intro (fun(h14:(limbs (d+0)).length=1)=>I (by omega:0<(limbs (d+0)).length) (And.intro (fun(h15:(limbs (d+0)).getD 0 0=1)=>I ((j4 hn0 hd0).symm:neg=decide ((sgQ neg n d).num<0)) (I (by rw[qO hd0,←hg];first|rfl|rw[hg1,Nat.div_one];rfl:n+0=(sgQ neg n d).num.natAbs) (I (by rw[(qG hd0).2,←hg];first|exact v5 (by omega) (by omega)|(rw[hg1,Nat.div_one];exact v5 (by omega) (by omega)):(sgQ neg n d).den=1) (I ((qt (p:=1099511627776) (q9 (by decide) hx1) (qx (q9 (by decide) hx2)) hd0).1:lt2 (sgQ neg n d).num.natAbs 1099511627776) (I ((qt (p:=1099511627776) (q9 (by decide) hx1) (qx (q9 (by decide) hx2)) hd0).2:le2 (sgQ neg n d).den 1099511627776) ((Eq.refl (sgQ neg n d)))))))) (fun(h16: ¬((limbs (d+0)).getD 0 0=1))=>I ((j4 hn0 hd0).symm:neg=decide ((sgQ neg n d).num<0)) (I (by rw[qO hd0,←hg];first|rfl|rw[hg1,Nat.div_one];rfl:n+0=(sgQ neg n d).num.natAbs) (I (jI (by rw[(qG hd0).2,←hg];first|rfl|rw[hg1,Nat.div_one];rfl) (by omega):limbs (d+0)=denL (sgQ neg n d).den) (I ((qt (p:=1099511627776) (q9 (by decide) hx1) (qx (q9 (by decide) hx2)) hd0).1:lt2 (sgQ neg n d).num.natAbs 1099511627776) (I ((qt (p:=1099511627776) (q9 (by decide) hx1) (qx (q9 (by decide) hx2)) hd0).2:le2 (sgQ neg n d).den 1099511627776) ((Eq.refl (sgQ neg n d)))))))))) (fun(h17: ¬((limbs (d+0)).length=1))=>I ((j4 hn0 hd0).symm:neg=decide ((sgQ neg n d).num<0)) (I (by rw[qO hd0,←hg];first|rfl|rw[hg1,Nat.div_one];rfl:n+0=(sgQ neg n d).num.natAbs) (I (jI (by rw[(qG hd0).2,←hg];first|rfl|rw[hg1,Nat.div_one];rfl) (by omega):limbs (d+0)=denL (sgQ neg n d).den) (I ((qt (p:=1099511627776) (q9 (by decide) hx1) (qx (q9 (by decide) hx2)) hd0).1:lt2 (sgQ neg n d).num.natAbs 1099511627776) (I ((qt (p:=1099511627776) (q9 (by decide) hx1) (qx (q9 (by decide) hx2)) hd0).2:le2 (sgQ neg n d).den 1099511627776) ((Eq.refl (sgQ neg n d)))))))))) (Nat.gcd n d) rfl)) (fun(h18: ¬((limbs n).length≤2))=>(fun(g:Nat)(hg:g=Nat.gcd n d)=>have hg0:=(show 0<g from hg▸Nat.gcd_pos_of_pos_right _ hd0);And.intro (fun(h19:1<bl g)=>I (by omega:0<g) (I (by omega:0<g) (And.intro (fun(h20:(limbs ((d/g)+0)).length=1)=>I (by omega:0<(limbs ((d/g)+0)).length) (And.intro (fun(h21:(limbs ((d/g)+0)).getD 0 0=1)=>I ((j4 hn0 hd0).symm:neg=decide ((sgQ neg n d).num<0)) (I (by rw[qO hd0,←hg];first|rfl|rw[hg1,Nat.div_one];rfl:(n/g)+0=(sgQ neg n d).num.natAbs) (I (by rw[(qG hd0).2,←hg];first|exact v5 (by omega) (by omega)|(rw[hg1,Nat.div_one];exact v5 (by omega) (by omega)):(sgQ neg n d).den=1) (I ((qt (p:=1099511627776) (q9 (by decide) hx1) (qx (q9 (by decide) hx2)) hd0).1:lt2 (sgQ neg n d).num.natAbs 1099511627776) (I ((qt (p:=1099511627776) (q9 (by decide) hx1) (qx (q9 (by decide) hx2)) hd0).2:le2 (sgQ neg n d).den 1099511627776) ((Eq.refl (sgQ neg n d)))))))) (fun(h22: ¬((limbs ((d/g)+0)).getD 0 0=1))=>I ((j4 hn0 hd0).symm:neg=decide ((sgQ neg n d).num<0)) (I (by rw[qO hd0,←hg];first|rfl|rw[hg1,Nat.div_one];rfl:(n/g)+0=(sgQ neg n d).num.natAbs) (I (jI (by rw[(qG hd0).2,←hg];first|rfl|rw[hg1,Nat.div_one];rfl) (by omega):limbs ((d/g)+0)=denL (sgQ neg n d).den) (I ((qt (p:=1099511627776) (q9 (by decide) hx1) (qx (q9 (by decide) hx2)) hd0).1:lt2 (sgQ neg n d).num.natAbs 1099511627776) (I ((qt (p:=1099511627776) (q9 (by decide) hx1) (qx (q9 (by decide) hx2)) hd0).2:le2 (sgQ neg n d).den 1099511627776) ((Eq.refl (sgQ neg n d)))))))))) (fun(h23: ¬((limbs ((d/g)+0)).length=1))=>I ((j4 hn0 hd0).symm:neg=decide ((sgQ neg n d).num<0)) (I (by rw[qO hd0,←hg];first|rfl|rw[hg1,Nat.div_one];rfl:(n/g)+0=(sgQ neg n d).num.natAbs) (I (jI (by rw[(qG hd0).2,←hg];first|rfl|rw[hg1,Nat.div_one];rfl) (by omega):limbs ((d/g)+0)=denL (sgQ neg n d).den) (I ((qt (p:=1099511627776) (q9 (by decide) hx1) (qx (q9 (by decide) hx2)) hd0).1:lt2 (sgQ neg n d).num.natAbs 1099511627776) (I ((qt (p:=1099511627776) (q9 (by decide) hx1) (qx (q9 (by decide) hx2)) hd0).2:le2 (sgQ neg n d).den 1099511627776) ((Eq.refl (sgQ neg n d))))))))))) (fun(h24: ¬(1<bl g))=>have hg1:=(N7 hg0 (by omega):g=1);And.intro (fun(h25:(limbs (d+0)).length=1)=>I (by omega:0<(limbs (d+0)).length) (And.intro (fun(h26:(limbs (d+0)).getD 0 0=1)=>I ((j4 hn0 hd0).symm:neg=decide ((sgQ neg n d).num<0)) (I (by rw[qO hd0,←hg];first|rfl|rw[hg1,Nat.div_one];rfl:n+0=(sgQ neg n d).num.natAbs) (I (by rw[(qG hd0).2,←hg];first|exact v5 (by omega) (by omega)|(rw[hg1,Nat.div_one];exact v5 (by omega) (by omega)):(sgQ neg n d).den=1) (I ((qt (p:=1099511627776) (q9 (by decide) hx1) (qx (q9 (by decide) hx2)) hd0).1:lt2 (sgQ neg n d).num.natAbs 1099511627776) (I ((qt (p:=1099511627776) (q9 (by decide) hx1) (qx (q9 (by decide) hx2)) hd0).2:le2 (sgQ neg n d).den 1099511627776) ((Eq.refl (sgQ neg n d)))))))) (fun(h27: ¬((limbs (d+0)).getD 0 0=1))=>I ((j4 hn0 hd0).symm:neg=decide ((sgQ neg n d).num<0)) (I (by rw[qO hd0,←hg];first|rfl|rw[hg1,Nat.div_one];rfl:n+0=(sgQ neg n d).num.natAbs) (I (jI (by rw[(qG hd0).2,←hg];first|rfl|rw[hg1,Nat.div_one];rfl) (by omega):limbs (d+0)=denL (sgQ neg n d).den) (I ((qt (p:=1099511627776) (q9 (by decide) hx1) (qx (q9 (by decide) hx2)) hd0).1:lt2 (sgQ neg n d).num.natAbs 1099511627776) (I ((qt (p:=1099511627776) (q9 (by decide) hx1) (qx (q9 (by decide) hx2)) hd0).2:le2 (sgQ neg n d).den 1099511627776) ((Eq.refl (sgQ neg n d)))))))))) (fun(h28: ¬((limbs (d+0)).length=1))=>I ((j4 hn0 hd0).symm:neg=decide ((sgQ neg n d).num<0)) (I (by rw[qO hd0,←hg];first|rfl|rw[hg1,Nat.div_one];rfl:n+0=(sgQ neg n d).num.natAbs) (I (jI (by rw[(qG hd0).2,←hg];first|rfl|rw[hg1,Nat.div_one];rfl) (by omega):limbs (d+0)=denL (sgQ neg n d).den) (I ((qt (p:=1099511627776) (q9 (by decide) hx1) (qx (q9 (by decide) hx2)) hd0).1:lt2 (sgQ neg n d).num.natAbs 1099511627776) (I ((qt (p:=1099511627776) (q9 (by decide) hx1) (qx (q9 (by decide) hx2)) hd0).2:le2 (sgQ neg n d).den 1099511627776) ((Eq.refl (sgQ neg n d)))))))))) (Nat.gcd n d) rfl))))⟩)
abbrev Cl:Ctr Tryz.prog:=FI.c Re
abbrev q1k:FI:=⟨207,[(.sl (.nat .u32)),(.sl (.nat .u32))],[(.s 1099511627776 (.n 4294967295)),(.s 1099511627776 (.n 4294967295))],fun _=>[],fun b z=>(fun(l:List Nat)(m:List Nat)=> .c (.one (.dt .bool .u (decide (l=m))))) z.1 z.2⟩
theorem q1l:q1k.OK Tryz.prog:=mkF hmix 26 Tryz.func207 rfl rfl (by decide) [] (fun(l:List Nat)(m:List Nat) b hx hp=>qa trivial rfl) (fun(l:List Nat)(m:List Nat) hx hp=>by
 have hl0:l.length≤1099511627776:=hx.1.1
 have hl1:m.length≤1099511627776:=hx.2.1
 refine⟨.cond (.nil) (.loop [.s 13 (.nat .i64) (.n 1099511627776)] (fun(i:Nat)=>i≤l.length∧l.take i=m.take i) (fun(i:Nat)=>l.length-i) (fun(i:Nat)=> .nil)),kcast (by kernel_rfl) (Sp (l.length≠m.length) (fun h1=>((decide_eq_false (by first|exact(Gl (by omega) hC.2 (by omega)).2 (by omega)|exact fun e=>absurd (congrArg List.length e) (by assumption))).symm:false=decide (l=m))) (fun h2=>I (⟨Nat.zero_le _,rfl⟩:0≤l.length∧l.take 0=m.take 0) (fun(i:Nat)(hb3:HB [.s 13 (.nat .i64) (.n 1099511627776)] i)(hC:i≤l.length∧l.take i=m.take i)=>have hv8:=(show i≤1099511627776 from hb3);Sp (i<l.length) (fun h4=>I (?_:i<l.length) (I (?_:i<m.length) (Sp (l.getD i 0≠m.getD i 0) (fun h5=>((decide_eq_false (by first|exact(Gl (by omega) hC.2 (by omega)).2 (by omega)|exact fun e=>absurd (congrArg List.length e) (by assumption))).symm:false=decide (l=m))) (fun h6=>I (show(i+1)≤1099511627776 by omega:Bnd (.nat .i64) (.n 1099511627776) (i+1)) (And.intro (⟨by omega,(Gl (by omega) hC.2 (by omega)).1 (by omega)⟩:(i+1)≤l.length∧l.take (i+1)=m.take (i+1)) (?_:l.length-(i+1)<l.length-i)))))) (fun h7=>((decide_eq_true (by have:=hC.2;rwa [List.take_of_length_le (by omega),List.take_of_length_le (by omega)]at this)).symm:true=decide (l=m))))))⟩<;>omega)
abbrev LW:Ctr Tryz.prog:=FI.c q1l
abbrev We:FI:=⟨140,[.rat],[(.n 68719476736)],fun _=>[],fun b z=>(fun(x:Rat)=> .c (.one (.dt (.int .i64) (.n 1) (sgnQ x)))) z⟩
theorem Wf:We.OK Tryz.prog:=mkF hmix 11 Tryz.func140 rfl rfl (by decide) [(214,.c N5)] (fun(x:Rat) b hx hp=>qa (Jx x) rfl) (fun(x:Rat) hx hp=>by
 refine⟨.nil,kcast (by kernel_rfl) (Sp (bl x.num.natAbs=0) (fun h1=>(by rw[sgnQ,if_pos (zU.1 (by omega))]:0=sgnQ x)) (fun h2=>Sp (x.num<0) (fun h3=>(by rw[sgnQ,if_neg (fun e=>absurd (zU.2 e) (by omega)),if_pos (by assumption)]:(-1)=sgnQ x)) (fun h4=>(by rw[sgnQ,if_neg (fun e=>absurd (zU.2 e) (by omega)),if_neg (by assumption)]:1=sgnQ x))))⟩)
abbrev Ll:Ctr Tryz.prog:=FI.c Wf
abbrev ZY:FI:=⟨132,[(.int .i64)],[(.n 9223372036854775807)],fun _=>[],fun b z=>(fun(v:Int)=> .c (.agg [.dt .rat (.n (Nat.log2 (b0 b).nb+1)) ((v:Rat))])) z⟩
theorem ZZ:ZY.OK Tryz.prog:=mkF hmix 9 Tryz.func132 rfl rfl (by decide) [(143,.c Cl),(205,.c Wg),(206,.c OT)] (fun(v:Int) b hx hp=>jb (A5 (Bnds.h1 hx).int)) (fun(v:Int) hx hp=>by
 refine⟨.nil,kcast (by kernel_rfl) ((Lq v:sgQ (decide (v<0)) v.natAbs 1=(v:Rat)))⟩)
abbrev OS:Ctr Tryz.prog:=FI.c ZZ
abbrev q04:FI:=⟨74,[.rat,.rat],[(.n 68719476736),(.n 68719476736)],fun _=>[],fun b z=>(fun(x:Rat)(y:Rat)=> .c (.agg [.dt .rat (.n ((b0 b).nb+(b1 b).nb)) (x*y)])) z.1 z.2⟩
theorem q05:q04.OK Tryz.prog:=mkF hmix 64 Tryz.func74 rfl rfl (by decide) [(141,.c E4),(142,.c Eb),(143,.c Cl),(144,.c mul_c),(145,.c FL)] (fun(x:Rat)(y:Rat) b hx hp=>jb (Be (Bnds.h2 hx).1 (Bnds.h2 hx).2)) (fun(x:Rat)(y:Rat) hx hp=>by
 refine⟨.nil,kcast (by kernel_rfl) (Sp ((limbs x.num.natAbs).length=0) (fun h1=>(?_:0=x*y)) (fun h2=>Sp ((limbs y.num.natAbs).length=0) (fun h3=>(?_:0=x*y)) (fun h4=>Sp (pb x=true) (fun h5=>Sp (pb y=true) (fun h6=>have hpx:=AT (x:=x) (by assumption);have hpy:=AT (x:=y) (by assumption);I (Nat.mul_pos hpx.2.2 hpy.2.2:0<(pd x)*(pd y)) ((?_:sgQ (decide ((decide (x.num<0))≠(decide (y.num<0)))) ((pn x)*(pn y)) ((pd x)*(pd y))=x*y))) (fun h7=>(?_:sgQ (decide ((decide (x.num<0))≠(decide (y.num<0)))) (x.num.natAbs*y.num.natAbs) (x.den*y.den)=x*y))) (fun h8=>(?_:sgQ (decide ((decide (x.num<0))≠(decide (y.num<0)))) (x.num.natAbs*y.num.natAbs) (x.den*y.den)=x*y)))))⟩<;>first|(first|rw[zL (nl0.1 (show(limbs x.num.natAbs).length=0 by omega)),Rat.zero_mul]|rw[zL (nl0.1 (show(limbs y.num.natAbs).length=0 by omega)),Rat.mul_zero])|(first|exact E7 x y|(rw[hpx.1,hpy.1,hpx.2.1,hpy.2.1];exact E7 x y)))
abbrev FT:Ctr Tryz.prog:=FI.c q05
def S8:Array Value→Sem Value:=fun args=>do
 let(x,y,c)←Extern.MathBitsCarry.three "Add64" args
 pure (Extern.MathBitsCarry.pair ((x+y+c)%Extern.MathBitsCarry.m64) ((x+y+c)/Extern.MathBitsCarry.m64))
theorem PY:Extern.findNext Tryz.f211=none:=by kernel_rfl
theorem TR:Extern.find Tryz.f211=some S8:=by kernel_rfl
theorem OU(a b:Nat)(w:World):(S8 #[.int .u64 (a:Int),.int .u64 (b:Int),.int .u64 0]).run Tryz.prog w= .ok (Extern.MathBitsCarry.pair ((a+b)%18446744073709551616) ((a+b)/18446744073709551616)) w:=by
 kernel_rfl
theorem QM{fx x y z:Operand}{ts:Array TypeId}{ty:TypeId}{a b:Nat}:
  OpOk Tryz.prog (.call {callee:= .value fx,args:= #[x,y,z],argTypes:=ts}) ty [(fx,vFun 211),(x,vInt .u64 a),(y,vInt .u64 b),(z,vInt .u64 0)] []
   (.tup [.one (.val (.int .u64 (((a+b)%18446744073709551616:Nat):Int))),.one (.val (.int .u64 (((a+b)/18446744073709551616:Nat):Int)))]) []:=
 qo fun ac w H β hins _ _=>by
  have hf:=(hins (fx,vFun 211) (by simp)).1
  have hx:=(hins (x,vInt .u64 a) (by simp)).1
  have hy:=(hins (y,vInt .u64 b) (by simp)).1
  have hz:=(hins (z,vInt .u64 0) (by simp)).1
  simp only at hf hx hy hz
  refine⟨Extern.MathBitsCarry.pair ((a+b)%18446744073709551616) ((a+b)/18446744073709551616),?_,fun _ _ _ _=>?_⟩
  ·exact⟨_,rfl,⟨⟨rfl,rfl⟩,⟨⟨rfl,rfl⟩,trivial⟩⟩⟩
  ·have hb: Tryz.f211.body.isNone=true:=by kernel_rfl
   have hn:(Tryz.f211.name== "runtime.NumGoroutine")=false:=by kernel_rfl
   simp only[execOp,resolve,hf,Deferred.ofValue,Sem.run_bind,Sem.run_pure,Result.andThen_ok,invoke,callFunc,run_program,Tryz.func211,hb,hn,Bool.false_eq_true,if_false,if_true,PY,TR]
   rw[show(#[]++Array.map ac.eval #[x,y,z]++ #[]:Array Value)= #[.int .u64 (a:Int),.int .u64 (b:Int),.int .u64 0] by simp[hx,hy,hz]]
   rw[show Sem.run Tryz.prog (mark (Mark.extern 211)) w= .ok () w from rfl]
   simp only[Result.andThen_ok,OU]
abbrev ZI:FI:=⟨138,[.rat,.rat,.bool],[(.n 68719476736),(.n 68719476736),.u],fun _=>[],fun b z=>(fun(x:Rat)(y:Rat)(s:Bool)=> .c (.agg [.dt .rat (.n ((b0 b).nb+(b1 b).nb+1)) (x+yQ s y)])) z.1 z.2.1 z.2.2⟩
theorem ZJ:ZI.OK Tryz.prog:=mkF hmix 152 Tryz.func138 rfl rfl (by decide) [(141,.c E4),(142,.c Eb),(143,.c Cl),(144,.c mul_c),(145,.c FL),(207,.c LW),(212,.c add_c),(213,.c q2b)] (fun(x:Rat)(y:Rat)(s:Bool) b hx hp=>jb (Gb (Bnds.h3 hx).1 (Bnds.h3 hx).2.1)) (fun(x:Rat)(y:Rat)(s:Bool) hx hp=>by
 refine⟨.cond (.cond (.h 6 2 (.any [.c (.one (.vl (.func (.func 211) #[] #[]))),.c (.one (.dt (.nat .u64) (.n 18446744065119617025) ((pn x)*(pd y)))),.c (.one (.dt (.nat .u64) (.n 18446744065119617025) ((pn y)*(pd x)))),.c (.one (.kn .u64 0))] (.tup [(.one (.dt (.nat .u64) (.n 18446744073709551615) ((((pn x)*(pd y))+((pn y)*(pd x)))%18446744073709551616))),(.one (.dt (.nat .u64) (.n 1) (cy ((pn x)*(pd y)) ((pn y)*(pd x)))))]) (qu (qa (Nat.le_of_lt_succ (Nat.mod_lt _ (by decide))) rfl) (qu (qa (q1h (Nat.mul_le_mul (FH x) (FG y)) (Nat.mul_le_mul (FH y) (FG x))) rfl) jh)) (Op.call {callee:= .value (.func 211),args:= #[.tmp 43,.tmp 44,.const (.int .u64 0)],argTypes:= #[161,161,161]}) (fun _=>QM (a:=(pn x)*(pd y)) (b:=(pn y)*(pd x)))) (.cond (.cond (.nil) (.cond (.cond (.h 10 4 (.i .sub) (.nil)) (.cond (.h 12 3 (.i .sub) (.nil)) (.nil))) (.cond (.h 12 3 (.i .sub) (.nil)) (.nil)))) (.cond (.cond (.h 10 4 (.i .sub) (.nil)) (.cond (.h 12 3 (.i .sub) (.nil)) (.nil))) (.cond (.h 12 3 (.i .sub) (.nil)) (.nil))))) (.nil)) (.nil),kcast (by kernel_rfl) (Sp (pb x=true) (fun h1=>Sp (pb y=true) (fun h2=>have hpx:=AT (x:=x) (by assumption);have hpy:=AT (x:=y) (by assumption);have hx8:=FH x;have hx9:=FG x;have hy8:=FH y;have hy9:=FG y;have hm1:=Nat.mul_le_mul hx8 hy9;have hm2:=Nat.mul_le_mul hy8 hx9;have hpp:=Nat.mul_pos hpx.2.2 hpy.2.2;I (rfl:([.c (.one (.vl (.func (.func 211) #[] #[]))),.c (.one (.dt (.nat .u64) (.n 18446744065119617025) ((pn x)*(pd y)))),.c (.one (.dt (.nat .u64) (.n 18446744065119617025) ((pn y)*(pd x)))),.c (.one (.kn .u64 0))]:List WV)=[.c (.one (.vl (.func (.func 211) #[] #[]))),.c (.one (.dt (.nat .u64) (.n 18446744065119617025) ((pn x)*(pd y)))),.c (.one (.dt (.nat .u64) (.n 18446744065119617025) ((pn y)*(pd x)))),.c (.one (.kn .u64 0))]) (I (rfl:(Op.call {callee:= .value (.func 211),args:= #[.tmp 43,.tmp 44,.const (.int .u64 0)],argTypes:= #[161,161,161]}:Op)=Op.call {callee:= .value (.func 211),args:= #[.tmp 43,.tmp 44,.const (.int .u64 0)],argTypes:= #[161,161,161]}) (Sp ((decide (x.num<0))=s) (fun h3=>Sp (cy ((pn x)*(pd y)) ((pn y)*(pd x))=0) (fun h4=>I (hpp:0<(pd x)*(pd y)) ((?_:sgQ s ((((pn x)*(pd y))+((pn y)*(pd x)))%18446744073709551616) ((pd x)*(pd y))=x+yQ s y))) (fun h5=>Sp ((decide (x.num<0))≠s) (fun h6=>Sp ((pn y)*(pd x)≤(pn x)*(pd y)) (fun h7=>I (by first|omega|contradiction:(pn y)*(pd x)≤(pn x)*(pd y)) (I (hpp:0<(pd x)*(pd y)) ((?_:sgQ (decide (x.num<0)) (((pn x)*(pd y)) -((pn y)*(pd x))) ((pd x)*(pd y))=x+yQ s y)))) (fun h8=>Sp ((decide (x.num<0))≠s) (fun h9=>I (by first|omega|contradiction:(pn x)*(pd y)≤(pn y)*(pd x)) (I (hpp:0<(pd x)*(pd y)) ((?_:sgQ s (((pn y)*(pd x)) -((pn x)*(pd y))) ((pd x)*(pd y))=x+yQ s y)))) (fun h10=>Sp ((!(decide ((denL x.den)=(denL y.den))))=true) (fun h11=>Sp ((decide (x.num<0))=s) (fun h12=>(?_:sgQ s ((x.num.natAbs*y.den)+(y.num.natAbs*x.den)) (x.den*y.den)=x+yQ s y)) (fun h13=>Sp (subC (x.num.natAbs*y.den) (y.num.natAbs*x.den)=0) (fun h14=>(?_:sgQ (decide (x.num<0)) ((x.num.natAbs*y.den) -(y.num.natAbs*x.den)) (x.den*y.den)=x+yQ s y)) (fun h15=>(?_:sgQ s ((y.num.natAbs*x.den) -(x.num.natAbs*y.den)) (x.den*y.den)=x+yQ s y)))) (fun h16=>have hde:=(show x.den=y.den from vG x.den_nz y.den_nz (by have h:=h16;simpa using h));Sp ((decide (x.num<0))=s) (fun h17=>(?_:sgQ s (x.num.natAbs+y.num.natAbs) x.den=x+yQ s y)) (fun h18=>Sp (subC x.num.natAbs y.num.natAbs=0) (fun h19=>(?_:sgQ (decide (x.num<0)) (x.num.natAbs-y.num.natAbs) x.den=x+yQ s y)) (fun h20=>(?_:sgQ s (y.num.natAbs-x.num.natAbs) x.den=x+yQ s y))))))) (fun h21=>Sp ((decide (x.num<0))≠s) (fun h22=>I (by first|omega|contradiction:(pn x)*(pd y)≤(pn y)*(pd x)) (I (hpp:0<(pd x)*(pd y)) ((?_:sgQ s (((pn y)*(pd x)) -((pn x)*(pd y))) ((pd x)*(pd y))=x+yQ s y)))) (fun h23=>Sp ((!(decide ((denL x.den)=(denL y.den))))=true) (fun h24=>Sp ((decide (x.num<0))=s) (fun h25=>(?_:sgQ s ((x.num.natAbs*y.den)+(y.num.natAbs*x.den)) (x.den*y.den)=x+yQ s y)) (fun h26=>Sp (subC (x.num.natAbs*y.den) (y.num.natAbs*x.den)=0) (fun h27=>(?_:sgQ (decide (x.num<0)) ((x.num.natAbs*y.den) -(y.num.natAbs*x.den)) (x.den*y.den)=x+yQ s y)) (fun h28=>(?_:sgQ s ((y.num.natAbs*x.den) -(x.num.natAbs*y.den)) (x.den*y.den)=x+yQ s y)))) (fun h29=>have hde:=(show x.den=y.den from vG x.den_nz y.den_nz (by have h:=h29;simpa using h));Sp ((decide (x.num<0))=s) (fun h30=>(?_:sgQ s (x.num.natAbs+y.num.natAbs) x.den=x+yQ s y)) (fun h31=>Sp (subC x.num.natAbs y.num.natAbs=0) (fun h32=>(?_:sgQ (decide (x.num<0)) (x.num.natAbs-y.num.natAbs) x.den=x+yQ s y)) (fun h33=>(?_:sgQ s (y.num.natAbs-x.num.natAbs) x.den=x+yQ s y)))))))) (fun h34=>Sp ((decide (x.num<0))≠s) (fun h35=>Sp ((pn y)*(pd x)≤(pn x)*(pd y)) (fun h36=>I (by first|omega|contradiction:(pn y)*(pd x)≤(pn x)*(pd y)) (I (hpp:0<(pd x)*(pd y)) ((?_:sgQ (decide (x.num<0)) (((pn x)*(pd y)) -((pn y)*(pd x))) ((pd x)*(pd y))=x+yQ s y)))) (fun h37=>Sp ((decide (x.num<0))≠s) (fun h38=>I (by first|omega|contradiction:(pn x)*(pd y)≤(pn y)*(pd x)) (I (hpp:0<(pd x)*(pd y)) ((?_:sgQ s (((pn y)*(pd x)) -((pn x)*(pd y))) ((pd x)*(pd y))=x+yQ s y)))) (fun h39=>Sp ((!(decide ((denL x.den)=(denL y.den))))=true) (fun h40=>Sp ((decide (x.num<0))=s) (fun h41=>(?_:sgQ s ((x.num.natAbs*y.den)+(y.num.natAbs*x.den)) (x.den*y.den)=x+yQ s y)) (fun h42=>Sp (subC (x.num.natAbs*y.den) (y.num.natAbs*x.den)=0) (fun h43=>(?_:sgQ (decide (x.num<0)) ((x.num.natAbs*y.den) -(y.num.natAbs*x.den)) (x.den*y.den)=x+yQ s y)) (fun h44=>(?_:sgQ s ((y.num.natAbs*x.den) -(x.num.natAbs*y.den)) (x.den*y.den)=x+yQ s y)))) (fun h45=>have hde:=(show x.den=y.den from vG x.den_nz y.den_nz (by have h:=h45;simpa using h));Sp ((decide (x.num<0))=s) (fun h46=>(?_:sgQ s (x.num.natAbs+y.num.natAbs) x.den=x+yQ s y)) (fun h47=>Sp (subC x.num.natAbs y.num.natAbs=0) (fun h48=>(?_:sgQ (decide (x.num<0)) (x.num.natAbs-y.num.natAbs) x.den=x+yQ s y)) (fun h49=>(?_:sgQ s (y.num.natAbs-x.num.natAbs) x.den=x+yQ s y))))))) (fun h50=>Sp ((decide (x.num<0))≠s) (fun h51=>I (by first|omega|contradiction:(pn x)*(pd y)≤(pn y)*(pd x)) (I (hpp:0<(pd x)*(pd y)) ((?_:sgQ s (((pn y)*(pd x)) -((pn x)*(pd y))) ((pd x)*(pd y))=x+yQ s y)))) (fun h52=>Sp ((!(decide ((denL x.den)=(denL y.den))))=true) (fun h53=>Sp ((decide (x.num<0))=s) (fun h54=>(?_:sgQ s ((x.num.natAbs*y.den)+(y.num.natAbs*x.den)) (x.den*y.den)=x+yQ s y)) (fun h55=>Sp (subC (x.num.natAbs*y.den) (y.num.natAbs*x.den)=0) (fun h56=>(?_:sgQ (decide (x.num<0)) ((x.num.natAbs*y.den) -(y.num.natAbs*x.den)) (x.den*y.den)=x+yQ s y)) (fun h57=>(?_:sgQ s ((y.num.natAbs*x.den) -(x.num.natAbs*y.den)) (x.den*y.den)=x+yQ s y)))) (fun h58=>have hde:=(show x.den=y.den from vG x.den_nz y.den_nz (by have h:=h58;simpa using h));Sp ((decide (x.num<0))=s) (fun h59=>(?_:sgQ s (x.num.natAbs+y.num.natAbs) x.den=x+yQ s y)) (fun h60=>Sp (subC x.num.natAbs y.num.natAbs=0) (fun h61=>(?_:sgQ (decide (x.num<0)) (x.num.natAbs-y.num.natAbs) x.den=x+yQ s y)) (fun h62=>(?_:sgQ s (y.num.natAbs-x.num.natAbs) x.den=x+yQ s y)))))))))) (fun h63=>Sp ((!(decide ((denL x.den)=(denL y.den))))=true) (fun h64=>Sp ((decide (x.num<0))=s) (fun h65=>(?_:sgQ s ((x.num.natAbs*y.den)+(y.num.natAbs*x.den)) (x.den*y.den)=x+yQ s y)) (fun h66=>Sp (subC (x.num.natAbs*y.den) (y.num.natAbs*x.den)=0) (fun h67=>(?_:sgQ (decide (x.num<0)) ((x.num.natAbs*y.den) -(y.num.natAbs*x.den)) (x.den*y.den)=x+yQ s y)) (fun h68=>(?_:sgQ s ((y.num.natAbs*x.den) -(x.num.natAbs*y.den)) (x.den*y.den)=x+yQ s y)))) (fun h69=>have hde:=(show x.den=y.den from vG x.den_nz y.den_nz (by have h:=h69;simpa using h));Sp ((decide (x.num<0))=s) (fun h70=>(?_:sgQ s (x.num.natAbs+y.num.natAbs) x.den=x+yQ s y)) (fun h71=>Sp (subC x.num.natAbs y.num.natAbs=0) (fun h72=>(?_:sgQ (decide (x.num<0)) (x.num.natAbs-y.num.natAbs) x.den=x+yQ s y)) (fun h73=>(?_:sgQ s (y.num.natAbs-x.num.natAbs) x.den=x+yQ s y)))))) (fun h74=>Sp ((!(decide ((denL x.den)=(denL y.den))))=true) (fun h75=>Sp ((decide (x.num<0))=s) (fun h76=>(?_:sgQ s ((x.num.natAbs*y.den)+(y.num.natAbs*x.den)) (x.den*y.den)=x+yQ s y)) (fun h77=>Sp (subC (x.num.natAbs*y.den) (y.num.natAbs*x.den)=0) (fun h78=>(?_:sgQ (decide (x.num<0)) ((x.num.natAbs*y.den) -(y.num.natAbs*x.den)) (x.den*y.den)=x+yQ s y)) (fun h79=>(?_:sgQ s ((y.num.natAbs*x.den) -(x.num.natAbs*y.den)) (x.den*y.den)=x+yQ s y)))) (fun h80=>have hde:=(show x.den=y.den from vG x.den_nz y.den_nz (by have h:=h80;simpa using h));Sp ((decide (x.num<0))=s) (fun h81=>(?_:sgQ s (x.num.natAbs+y.num.natAbs) x.den=x+yQ s y)) (fun h82=>Sp (subC x.num.natAbs y.num.natAbs=0) (fun h83=>(?_:sgQ (decide (x.num<0)) (x.num.natAbs-y.num.natAbs) x.den=x+yQ s y)) (fun h84=>(?_:sgQ s (y.num.natAbs-x.num.natAbs) x.den=x+yQ s y))))))⟩<;>first|(first|contradiction|skip;rw[hpx.1,hpx.2.1,hpy.1,hpy.2.1]at*;first|(rw[XQ (by assumption)];exact Ai (by assumption))|exact Ag (by assumption) (by assumption)|exact Ah (by assumption) (by omega))|(first|contradiction|exact Tb hde (by assumption)|exact T9 hde (by assumption) (FX.1 (by assumption))|exact Ta hde (by assumption) (Nat.le_of_lt (Nat.lt_of_not_le (mt FX.2 (by assumption))))|exact Ai (by assumption)|exact Ag (by assumption) (FX.1 (by assumption))|exact Ah (by assumption) (Nat.le_of_lt (Nat.lt_of_not_le (mt FX.2 (by assumption))))))
abbrev OG:Ctr Tryz.prog:=FI.c ZJ
abbrev VH:FI:=⟨139,[.rat,.rat],[(.n 68719476736),(.n 68719476736)],fun _=>[],fun b z=>(fun(x:Rat)(y:Rat)=> .c (.agg [.dt .rat (.n ((b0 b).nb+(b1 b).nb+1)) (x+y)])) z.1 z.2⟩
theorem VI:VH.OK Tryz.prog:=mkF hmix 10 Tryz.func139 rfl rfl (by decide) [(138,.c OG)] (fun(x:Rat)(y:Rat) b hx hp=>jb (Ep (Bnds.h2 hx).1 (Bnds.h2 hx).2)) (fun(x:Rat)(y:Rat) hx hp=>by
 refine⟨.nil,kcast (by kernel_rfl) ((by rw[BO]:x+yQ (decide (y.num<0)) y=x+y))⟩)
abbrev Lh:Ctr Tryz.prog:=FI.c VI
abbrev q0a:FI:=⟨71,[.rat,.rat],[(.n 68719476736),(.n 68719476736)],fun _=>[],fun b z=>(fun(x:Rat)(y:Rat)=> .c (.agg [.dt .rat (.n ((b0 b).nb+(b1 b).nb+1)) (x-y)])) z.1 z.2⟩
theorem q0b:q0a.OK Tryz.prog:=mkF hmix 11 Tryz.func71 rfl rfl (by decide) [(138,.c OG)] (fun(x:Rat)(y:Rat) b hx hp=>jb (ER (Bnds.h2 hx).1 (Bnds.h2 hx).2)) (fun(x:Rat)(y:Rat) hx hp=>by
 refine⟨.nil,kcast (by kernel_rfl) ((by rw[show decide (¬(y.num<0))=!decide (y.num<0)from decide_not,Py,Rat.sub_eq_add_neg]:x+yQ (decide (¬(y.num<0))) y=x-y))⟩)
abbrev FU:Ctr Tryz.prog:=FI.c q0b
abbrev OJ:FI:=⟨134,[.rat],[(.n 1099511627776)],fun _=>[],fun b z=>(fun(x:Rat)=> .c (.agg [.dt .rat (b0 b) x])) z⟩
theorem OL:OJ.OK Tryz.prog:=mkF hmix 12 Tryz.func134 rfl rfl (by decide) [(209,.c BW)] (fun(x:Rat) b hx hp=>jb (Bnds.h1 hx)) (fun(x:Rat) hx hp=>by
 have hx0:Bnd .rat (.n 1099511627776) x:=hx
 refine⟨.h 1 7 (.c Ak) (.h 1 8 (.rat x 1099511627776) (.nil)),kcast (by kernel_rfl) (I (Eq.refl (decide (x.num<0))) (I (Eq.refl x.num.natAbs) (I (Eq.refl (denL x.den)) (I (hx0.1:lt2 x.num.natAbs 1099511627776) (I (hx0.2:le2 x.den 1099511627776) ((Eq.refl x)))))))⟩)
abbrev Dc:Ctr Tryz.prog:=FI.c OL
abbrev q08:FI:=⟨73,[.rat,.rat],[(.n 68719476736),(.n 68719476736)],fun _=>[],fun b z=>(fun(x:Rat)(y:Rat)=> .tup [.agg [.dt .rat (.n ((b0 b).nb+(b1 b).nb)) (x/y)],.one (.dt (.int .i64) (.n 3) (quoC y))]) z.1 z.2⟩
theorem q09:q08.OK Tryz.prog:=mkF hmix 58 Tryz.func73 rfl rfl (by decide) [(140,.c Ll),(141,.c E4),(142,.c Eb),(143,.c Cl),(144,.c mul_c),(145,.c FL)] (fun(x:Rat)(y:Rat) b hx hp=>qu (jb (GJ (Bnds.h2 hx).1 (Bnds.h2 hx).2)) (qu (qa (OF y) rfl) jh)) (fun(x:Rat)(y:Rat) hx hp=>by
 refine⟨.nil,kcast (by kernel_rfl) (Sp (sgnQ y=0) (fun h1=>And.intro (SO (Jw.1 (by assumption)):0=x/y) ((if_pos (Jw.1 (by assumption))).symm:3=quoC y)) (fun h2=>have hy0:=mt Jw.2 (by assumption);Sp (pb x=true) (fun h3=>Sp (pb y=true) (fun h4=>have hpx:=AT (x:=x) (by assumption);have hpy:=AT (x:=y) (by assumption);I (Nat.mul_pos hpx.2.2 (hpy.1▸Nat.pos_of_ne_zero hy0):0<(pd x)*(pn y)) (And.intro (?_:sgQ (decide ((decide (x.num<0))≠(decide (y.num<0)))) ((pn x)*(pd y)) ((pd x)*(pn y))=x/y) ((if_neg hy0).symm:0=quoC y))) (fun h5=>And.intro (?_:sgQ (decide ((decide (x.num<0))≠(decide (y.num<0)))) (x.num.natAbs*y.den) (x.den*y.num.natAbs)=x/y) ((if_neg hy0).symm:0=quoC y))) (fun h6=>And.intro (?_:sgQ (decide ((decide (x.num<0))≠(decide (y.num<0)))) (x.num.natAbs*y.den) (x.den*y.num.natAbs)=x/y) ((if_neg hy0).symm:0=quoC y))))⟩<;>first|(first|exact Da hy0|(rw[hpx.1,hpy.1,hpx.2.1,hpy.2.1];exact Da hy0)))
abbrev Jt:Ctr Tryz.prog:=FI.c q09
abbrev ZP:FI:=⟨133,[.rat,.rat],[(.n 68719476736),(.n 68719476736)],fun _=>[],fun b z=>(fun(x:Rat)(y:Rat)=> .c (.one (.dt (.int .i64) (.n 1) (cmpQ x y)))) z.1 z.2⟩
theorem ZQ:ZP.OK Tryz.prog:=mkF hmix 80 Tryz.func133 rfl rfl (by decide) [(140,.c Ll),(141,.c E4),(144,.c mul_c),(145,.c FL),(207,.c LW),(208,.c LU)] (fun(x:Rat)(y:Rat) b hx hp=>qa (wg x y) rfl) (fun(x:Rat)(y:Rat) hx hp=>by
 refine⟨.nil,kcast (by kernel_rfl) (Sp (sgnQ x≠sgnQ y) (fun h1=>Sp (sgnQ x<sgnQ y) (fun h2=>(?_:(-1)=cmpQ x y)) (fun h3=>(?_:1=cmpQ x y))) (fun h4=>have hs:=(show sgnQ x=sgnQ y by omega);Sp (decide ((denL x.den)=(denL y.den))=true) (fun h5=>have hde:=(show x.den=y.den from vG x.den_nz y.den_nz (by have h:=h5;simpa using h));Sp (x.num<0) (fun h6=>(?_: -(cmpN x.num.natAbs y.num.natAbs)=cmpQ x y)) (fun h7=>(?_:cmpN x.num.natAbs y.num.natAbs=cmpQ x y))) (fun h8=>Sp (pb x=true) (fun h9=>Sp (pb y=true) (fun h10=>have hpx:=AT (x:=x) (by assumption);have hpy:=AT (x:=y) (by assumption);Sp ((pn x)*(pd y)<(pn y)*(pd x)) (fun h11=>Sp (x.num<0) (fun h12=>(?_:1=cmpQ x y)) (fun h13=>(?_:(-1)=cmpQ x y))) (fun h14=>Sp ((pn y)*(pd x)<(pn x)*(pd y)) (fun h15=>Sp (x.num<0) (fun h16=>(?_:(-1)=cmpQ x y)) (fun h17=>(?_:1=cmpQ x y))) (fun h18=>Sp (x.num<0) (fun h19=>(?_:0=cmpQ x y)) (fun h20=>(?_:0=cmpQ x y))))) (fun h21=>Sp (x.num<0) (fun h22=>(?_: -(cmpN (x.num.natAbs*y.den) (y.num.natAbs*x.den))=cmpQ x y)) (fun h23=>(?_:cmpN (x.num.natAbs*y.den) (y.num.natAbs*x.den)=cmpQ x y)))) (fun h24=>Sp (x.num<0) (fun h25=>(?_: -(cmpN (x.num.natAbs*y.den) (y.num.natAbs*x.den))=cmpQ x y)) (fun h26=>(?_:cmpN (x.num.natAbs*y.den) (y.num.natAbs*x.den)=cmpQ x y))))))⟩<;>first|(first|exact((DC (by assumption)).1 (by assumption)).symm|exact((DC (by assumption)).2 (by assumption)).symm|(rw[KE hs (by assumption)];first|exact BY hde|exact congrArg Neg.neg (BY hde)|rfl|(rw[Nc hpx hpy];unfold cmpN;split<;>(try split)<;>first|rfl|omega))|(rw[KF hs (by assumption)];first|exact BY hde|exact congrArg Neg.neg (BY hde)|rfl|(rw[Nc hpx hpy];unfold cmpN;split<;>(try split)<;>first|rfl|omega))))
abbrev BE:Ctr Tryz.prog:=FI.c ZQ
abbrev W9:FI:=⟨260,[.rat,.rat],[(.n 1099511627776),(.n 1099511627776)],fun _=>[],fun b z=>(fun(x:Rat)(y:Rat)=> .c (.one (.dt .bool .u (decide (x=y))))) z.1 z.2⟩
theorem Wa:W9.OK Tryz.prog:=mkF hmix 24 Tryz.func260 rfl rfl (by decide) [(207,.c LW)] (fun(x:Rat)(y:Rat) b hx hp=>qa trivial rfl) (fun(x:Rat)(y:Rat) hx hp=>by
 refine⟨.nil,kcast (by kernel_rfl) (Sp ((decide (x.num<0))=(decide (y.num<0))) (fun h1=>Sp (decide ((limbs x.num.natAbs)=(limbs y.num.natAbs))=true) (fun h2=>(?_:decide ((denL x.den)=(denL y.den))=decide (x=y))) (fun h3=>(?_:false=decide (x=y)))) (fun h4=>(?_:false=decide (x=y))))⟩<;>first|(first|exact q25 (by assumption)|exact q26 (by assumption)|exact q27 (by assumption) (by assumption)))
abbrev W8:Ctr Tryz.prog:=FI.c Wa
abbrev q02:FI:=⟨66,[.rat,.rat],[(.n 68719476736),(.n 68719476736)],fun _=>[],fun b z=>(fun(x:Rat)(y:Rat)=> .c (.agg [.dt .rat (.n (max (b0 b).nb (b1 b).nb)) (minQ x y)])) z.1 z.2⟩
theorem q03:q02.OK Tryz.prog:=mkF hmix 12 Tryz.func66 rfl rfl (by decide) [(133,.c BE),(134,.c Dc)] (fun(x:Rat)(y:Rat) b hx hp=>jb (Ch (Bnds.h2 hx).1 (Bnds.h2 hx).2)) (fun(x:Rat)(y:Rat) hx hp=>by
 refine⟨.nil,kcast (by kernel_rfl) (Sp (cmpQ y x<0) (fun h1=>(?_:y=minQ x y)) (fun h2=>(?_:x=minQ x y)))⟩<;>first|(first|exact(if_pos (by assumption)).symm|exact(if_neg (by assumption)).symm))
abbrev Df:Ctr Tryz.prog:=FI.c q03
abbrev q00:FI:=⟨131,[.rat,.rat],[(.n 68719476736),(.n 68719476736)],fun _=>[],fun b z=>(fun(x:Rat)(y:Rat)=> .c (.agg [.dt .rat (.n (max (b0 b).nb (b1 b).nb)) (maxQ x y)])) z.1 z.2⟩
theorem q01:q00.OK Tryz.prog:=mkF hmix 12 Tryz.func131 rfl rfl (by decide) [(133,.c BE),(134,.c Dc)] (fun(x:Rat)(y:Rat) b hx hp=>jb (J4 (Bnds.h2 hx).1 (Bnds.h2 hx).2)) (fun(x:Rat)(y:Rat) hx hp=>by
 refine⟨.nil,kcast (by kernel_rfl) (Sp (0<cmpQ y x) (fun h1=>(?_:y=maxQ x y)) (fun h2=>(?_:x=maxQ x y)))⟩<;>first|(first|exact(if_pos (by assumption)).symm|exact(if_neg (by assumption)).symm))
abbrev FR:Ctr Tryz.prog:=FI.c q01
abbrev Xp:FO:=⟨147,[(.sl (.nat .u32))],[(.s 1099511627776 (.n 4294967295))],fun z=>(fun(ls:List Nat)=>[∀u∈ls,u<4294967296]) z,fun k b z=>(fun(ls:List Nat)=> .c (.one (.gs k ((limbs (valL ls)).length) 1 ((b0 b).len)))) z,fun b z=>(fun(ls:List Nat)=> .gro (.nat .u32) (.n 4294967295) (limbs (valL ls))) z⟩
theorem Xq:Xp.OK Tryz.prog:=mkO hmix 23 22 Tryz.func147 rfl rfl (by decide) [] (fun _=>rfl) (fun _ _ _=>rfl) (fun _ _=>rfl) (fun _ _ _=>⟨rfl,rfl⟩) (fun(ls:List Nat) k b hx hp=>⟨qa (Nat.le_trans (GA (hp _ List.mem_cons_self)) (Bnds.h1 hx).sl.1) rfl,fun u hu=>Nat.le_of_lt_succ (qF _ u hu)⟩) (fun(ls:List Nat) hx hp=>by
 have hl0:ls.length≤1099511627776:=hx.1
 have hp0: ∀u∈ls,u<4294967296:=hp _ (List.mem_cons_self)
 refine bodyO.g (.loop [.s 3 (.nat .i64) (.n 1099511627776)] (fun(k:Nat)=>k≤ls.length∧valL (ls.take k)=valL ls) (fun(k:Nat)=>k) (fun(k:Nat)=> .cond (.h 2 5 (.i .sub) (.cond (.h 3 1 (.i .sub) (.nil)) (.h 4 0 (.mk (.gro (.nat .u32) (.n 4294967295))) (.nil)))) (.h 4 0 (.mk (.gro (.nat .u32) (.n 4294967295))) (.nil)))) (kcast (by kernel_rfl) (I (⟨Nat.le_refl _,by rw[List.take_length]⟩:ls.length≤ls.length∧valL (ls.take ls.length)=valL ls) (fun(k:Nat)(hb1:HB [.s 3 (.nat .i64) (.n 1099511627776)] k)(hC:k≤ls.length∧valL (ls.take k)=valL ls)=>have hv6:=(show k≤1099511627776 from hb1);have hk:=hC.1;Sp (0<k) (fun h2=>I (?_:1≤k) (I (?_:k-1<ls.length) (Sp (ls.getD (k-1) 0=0) (fun h3=>I (?_:1≤k) (And.intro (⟨by omega,Dr hC.1 (by omega) hC.2 (by omega)⟩:k-1≤ls.length∧valL (ls.take (k-1))=valL ls) (?_:k-1<k))) (fun h4=>I (?_:k≤ls.length) (I (rfl:0=([]:List Nat).length) (And.intro ((List.nil_append _).trans (zf hp0 hC.1 hC.2 (by omega)):([]:List Nat)++(ls.take k)=limbs (valL ls)) ((by rw[←zf hp0 hC.1 hC.2 (by omega)];simp:0+(ls.take k).length=(limbs (valL ls)).length)))))))) (fun h5=>I (?_:k≤ls.length) (I (rfl:0=([]:List Nat).length) (And.intro ((List.nil_append _).trans (zf hp0 hC.1 hC.2 (by omega)):([]:List Nat)++(ls.take k)=limbs (valL ls)) ((by rw[←zf hp0 hC.1 hC.2 (by omega)];simp:0+(ls.take k).length=(limbs (valL ls)).length))))))))<;>omega)
abbrev Xo(k:Nat)(b:List Bd)(ls:List Nat):WV:= .c (.one (.gs k ((limbs (valL ls)).length) 1 ((b0 b).len)))
abbrev Xn(b:List Bd)(ls:List Nat):WB:= .gro (.nat .u32) (.n 4294967295) (limbs (valL ls))
theorem Px(d:Nat)(ls:List Nat)(hx:Bnds [(.sl (.nat .u32))] [(.s 1099511627776 (.n 4294967295))] ls)(hp: ∀c0∈([∀u∈ls,u<4294967296]:List Prop),c0):SigG Tryz.prog 147 (argsE [(.sl (.nat .u32))] ls) [] (Xo d [(.s 1099511627776 (.n 4294967295))] ls).exp [(d,some (Xn [(.s 1099511627776 (.n 4294967295))] ls).exp)]:=Xq.sig d ls hx hp
theorem Pw(b:List Bd)(ls:List Nat)(hx:Bnds [.sl (.nat .u32)] b ls)(hp: ∀p∈([∀u∈ls,u<4294967296]:List Prop),p):(WV.c (.one (.dt .mag (.n (32*(b0 b).len)) (valL ls)))).ok:=qa (Cf (hp _ List.mem_cons_self) (Bnds.h1 hx).sl.1) rfl
theorem G8(ls:List Nat)(hx:Bnds [.sl (.nat .u32)] [.s 1099511627776 (.n 4294967295)] ls)(hp: ∀p∈([∀u∈ls,u<4294967296]:List Prop),p)(b:Bd):Sig Tryz.prog 147 (argsE [.sl (.nat .u32)] ls) (WV.c (.one (.dt .mag b (valL ls)))).exp:=by
 have h:=frzO (Px 0 ls hx hp) (by decide) rfl .u
 rw[magE (valL ls) .u b]at h;exact h
def wv:Ctr Tryz.prog:=⟨147,[.sl (.nat .u32)],[.s 1099511627776 (.n 4294967295)],fun z=>[∀u∈z,u<4294967296],fun b z=> .c (.one (.dt .mag (.n (32*(b0 b).len)) (valL z))),fun z hx hp=>G8 z hx hp _,fun _ _=>rfl,fun b z hx hp=>Pw b z hx hp⟩
theorem N1(x:Nat)(hx:Bnds [.mag] [.n 1099511627776] x)(b:Bd):Sig Tryz.prog 147 (argsE [.mag] x) (WV.c (.one (.dt .mag b x))).exp:=by
 have h:=G8 (limbs x) ⟨Nat.le_trans (qg (Nat.le_of_lt hx)) (by decide),(Bnd.limbs hx).2⟩ (by intro p hp;simp only[List.mem_cons,List.not_mem_nil,or_false]at hp;subst hp;exact qF x) b
 rw[qm,←CF]at h;exact h
def H3:Ctr Tryz.prog:=⟨147,[.mag],[.n 1099511627776],fun z=>[],fun b z=> .c (.one (.dt .mag (b0 b) z)),fun z hx hp=>N1 z hx _,fun _ _=>rfl,fun b z hx hp=>qa (Bnds.h1 hx) rfl⟩
abbrev q2h:FI:=⟨150,[(.nat .u64)],[(.n 18446744073709551615)],fun _=>[],fun b z=>(fun(x:Nat)=> .c (.one (.dt .mag (.n (Nat.log2 (b0 b).nb+1)) (x)))) z⟩
theorem q2i:q2h.OK Tryz.prog:=mkF hmix 10 Tryz.func150 rfl rfl (by decide) [] (fun(x:Nat) b hx hp=>qa (zo (Bnds.h1 hx).nat) rfl) (fun(x:Nat) hx hp=>by
 have hx0:x≤18446744073709551615:=hx
 refine⟨.h 1 5 (.mk (.im (.nat .u32) (.n 4294967295))) (.h 1 6 (.c wv) (.nil)),kcast (by kernel_rfl) (I (by intro u hu;simp only[List.mem_cons,List.not_mem_nil,or_false]at hu;omega: ∀u∈[x%4294967296,x/2^32],u<4294967296) ((by simp only[valL];omega:valL [x%4294967296,x/2^32]=x)))⟩)
abbrev Ig:Ctr Tryz.prog:=FI.c q2i
abbrev q0B:FI:=⟨82,[.mag,.mag],[(.n 1099511627776),(.n 1099511627776)],fun _=>[],fun b z=>(fun(x:Nat)(y:Nat)=> .c (.one (.dt (.int .i64) (.n 1) (cmpN x y)))) z.1 z.2⟩
theorem q0C:q0B.OK Tryz.prog:=mkF hmix 41 Tryz.func82 rfl rfl (by decide) [] (fun(x:Nat)(y:Nat) b hx hp=>qa (KD x y) rfl) (fun(x:Nat)(y:Nat) hx hp=>by
 have hx0:lt2 x 1099511627776:=hx.1
 have hl0:(limbs x).length≤34359738369:=qg (Nat.le_of_lt hx0)
 have hx1:lt2 y 1099511627776:=hx.2
 have hl1:(limbs y).length≤34359738369:=qg (Nat.le_of_lt hx1)
 refine⟨.cond (.nil) (.loop [.s 5 (.int .i64) (.n 68719476736)] (fun(z:Int)=>CmpI x y z) (fun(z:Int)=>(z+1).toNat) (fun(z:Int)=> .cond (.h 8 2 (.ix z.toNat) (.h 8 6 (.ix z.toNat) (.cond (.nil) (.h 10 2 (.ix z.toNat) (.h 10 6 (.ix z.toNat) (.nil)))))) (.nil))),kcast (by kernel_rfl) (Sp ((limbs x).length≠(limbs y).length) (fun h1=>Sp ((limbs x).length<(limbs y).length) (fun h2=>(?_:(-1)=cmpN x y)) (fun h3=>(?_:1=cmpN x y))) (fun h4=>I (CmpI.start (by omega):CmpI x y ((((limbs x).length:Nat):Int) -1)) (fun(z:Int)(hb5:HB [.s 5 (.int .i64) (.n 68719476736)] z)(hC:CmpI x y z)=>have hv12:=(show Int.natAbs z≤68719476736 from hb5);have hC0:=hC.h0;have hC1:=hC.h1;Sp (0≤z) (fun h6=>I (?_:z=((z.toNat:Nat):Int)) (I (?_:z.toNat<(limbs x).length) (I (?_:z=((z.toNat:Nat):Int)) (I (?_:z.toNat<(limbs y).length) (Sp ((limbs x).getD z.toNat 0<(limbs y).getD z.toNat 0) (fun h7=>(?_:(-1)=cmpN x y)) (fun h8=>I (?_:z=((z.toNat:Nat):Int)) (I (?_:z.toNat<(limbs x).length) (I (?_:z=((z.toNat:Nat):Int)) (I (?_:z.toNat<(limbs y).length) (Sp ((limbs y).getD z.toNat 0<(limbs x).getD z.toNat 0) (fun h9=>(?_:1=cmpN x y)) (fun h10=>I (show Int.natAbs (z-1)≤68719476736 by omega:Bnd (.int .i64) (.n 68719476736) (z-1)) (And.intro ((hC.at (by omega) (by omega)).1 (by omega):CmpI x y (z-1)) (?_:((z-1)+1).toNat<(z+1).toNat))))))))))))) (fun h11=>((hC.fin (by omega)).symm:0=cmpN x y)))))⟩<;>first|omega|(first|exact(Ix (by omega)).symm|exact((hC.at (by omega) (by omega)).2.1 (by omega)).symm)|(first|exact(Iy (by omega)).symm|exact((hC.at (by omega) (by omega)).2.2 (by omega)).symm))
abbrev Dw:Ctr Tryz.prog:=FI.c q0C
abbrev S1:FI:=⟨193,[.mag,.mag],[(.n 1099511627776),(.n 1099511627776)],fun z=>(fun(x:Nat)(y:Nat)=>[y≤x]) z.1 z.2,fun b z=>(fun(x:Nat)(y:Nat)=> .c (.one (.dt .mag (b0 b) (x-y)))) z.1 z.2⟩
theorem S2:S1.OK Tryz.prog:=mkF hmix 50 Tryz.func193 rfl rfl (by decide) [] (fun(x:Nat)(y:Nat) b hx hp=>qa (Bnd.magLe (Bnds.h2 hx).1 (Nat.sub_le _ _)) rfl) (fun(x:Nat)(y:Nat) hx hp=>by
 have hx0:lt2 x 1099511627776:=hx.1
 have hl0:(limbs x).length≤34359738369:=qg (Nat.le_of_lt hx0)
 have hx1:lt2 y 1099511627776:=hx.2
 have hl1:(limbs y).length≤34359738369:=qg (Nat.le_of_lt hx1)
 have hp0:y≤x:=hp _ (List.mem_cons_self)
 have hlen:=jZ hp0
 refine⟨.h 1 2 (.mk (.arr (.nat .u32) (.n 4294967295))) (.loop [.s 7 (.nat .i64) (.n 34359738369),.s 6 (.nat .u64) (.n 1),.a 12 (.nat .u32) (.n 4294967295)] (fun((i,c,out):Nat×Nat×List Nat)=>SubI x y i c out) (fun((i,c,out):Nat×Nat×List Nat)=>(limbs x).length-i) (fun((i,c,out):Nat×Nat×List Nat)=> .cond (.cond (.cond (.h 14 4 (.i .sub) (.nil)) (.h 14 4 (.i .sub) (.nil))) (.cond (.h 14 4 (.i .sub) (.nil)) (.h 14 4 (.i .sub) (.nil)))) (.pre 15 (.frz 12 true [5]) (.h 15 1 (.c wv) (.nil))))),kcast (by kernel_rfl) (I (?_:(limbs x).length=(limbs x).length) (I (SubI.start x y:SubI x y 0 0 (List.replicate ((limbs x).length) (0:Nat))) (fun(i:Nat)(c:Nat)(out:List Nat)(hb1:HB [.s 7 (.nat .i64) (.n 34359738369),.s 6 (.nat .u64) (.n 1),.a 12 (.nat .u32) (.n 4294967295)] (i,c,out))(hI:SubI x y i c out)=>have hv10:=(show i≤34359738369 from hb1.1);have hv11:=(show c≤1 from hb1.2.1);have hv12:=(show∀u∈out,u≤4294967295 from hb1.2.2);have hIl:=hI.hl;have hIi:=hI.hi;have hIc:=hI.hc;have hg1:=q8 x i;have hg2:=q8 y i;Sp (i<(limbs x).length) (fun h2=>Sp (i<(limbs y).length) (fun h3=>I (?_:i<(limbs y).length) (I (?_:i<(limbs x).length) (Sp ((limbs x).getD i 0<c+((limbs y).getD i 0)) (fun h4=>I (?_:c+((limbs y).getD i 0)≤((limbs x).getD i 0)+4294967296) (I (?_:i<(limbs x).length) (I (?_:i<out.length) (I (show(i+1)≤34359738369 by omega:Bnd (.nat .i64) (.n 34359738369) (i+1)) (And.intro (?_:SubI x y (i+1) 1 (out.set i (((((limbs x).getD i 0)+4294967296) -(c+((limbs y).getD i 0)))%4294967296))) (?_:(limbs x).length-(i+1)<(limbs x).length-i)))))) (fun h5=>I (?_:c+((limbs y).getD i 0)≤(limbs x).getD i 0) (I (?_:i<(limbs x).length) (I (?_:i<out.length) (I (show(i+1)≤34359738369 by omega:Bnd (.nat .i64) (.n 34359738369) (i+1)) (And.intro (?_:SubI x y (i+1) 0 (out.set i (((limbs x).getD i 0) -(c+((limbs y).getD i 0))))) (?_:(limbs x).length-(i+1)<(limbs x).length-i))))))))) (fun h6=>I (?_:i<(limbs x).length) (Sp ((limbs x).getD i 0<c) (fun h7=>I (?_:c≤((limbs x).getD i 0)+4294967296) (I (?_:i<(limbs x).length) (I (?_:i<out.length) (I (show(i+1)≤34359738369 by omega:Bnd (.nat .i64) (.n 34359738369) (i+1)) (And.intro (?_:SubI x y (i+1) 1 (out.set i (((((limbs x).getD i 0)+4294967296) -c)%4294967296))) (?_:(limbs x).length-(i+1)<(limbs x).length-i)))))) (fun h8=>I (?_:c≤(limbs x).getD i 0) (I (?_:i<(limbs x).length) (I (?_:i<out.length) (I (show(i+1)≤34359738369 by omega:Bnd (.nat .i64) (.n 34359738369) (i+1)) (And.intro (?_:SubI x y (i+1) 0 (out.set i (((limbs x).getD i 0) -c))) (?_:(limbs x).length-(i+1)<(limbs x).length-i))))))))) (fun h9=>I (?_:(limbs x).length=out.length) (have hF:=hI.fin' (by omega) hp0;I (hF.2: ∀u∈out,u<4294967296) ((hF.1:valL out=x-y)))))))⟩<;>first|omega|(first|exact hI.lt (by omega) (by first|rfl|rw[qr (l:=limbs y) (by omega),Nat.add_zero]) (by assumption)|exact hI.ge (by omega) (by first|rfl|rw[qr (l:=limbs y) (by omega),Nat.add_zero]) (by assumption)))
abbrev K7:Ctr Tryz.prog:=FI.c S2
abbrev q0L:FI:=⟨120,[.mag,.mag],[(.n 1099511627776),(.n 1099511627776)],fun _=>[],fun b z=>(fun(x:Nat)(y:Nat)=> .tup [.one (.dt .mag (b0 b) (x-y)),.one (.dt (.int .i64) (.n 7) (subC x y))]) z.1 z.2⟩
theorem q0M:q0L.OK Tryz.prog:=mkF hmix 13 Tryz.func120 rfl rfl (by decide) [(82,.c Dw),(193,.c K7)] (fun(x:Nat)(y:Nat) b hx hp=>qu (qa (Bnd.magLe (Bnds.h2 hx).1 (Nat.sub_le _ _)) rfl) (qu (qa (P3 x y) rfl) jh)) (fun(x:Nat)(y:Nat) hx hp=>by
 have hx0:lt2 x 1099511627776:=hx.1
 have hl0:(limbs x).length≤34359738369:=qg (Nat.le_of_lt hx0)
 have hx1:lt2 y 1099511627776:=hx.2
 have hl1:(limbs y).length≤34359738369:=qg (Nat.le_of_lt hx1)
 refine⟨.nil,kcast (by kernel_rfl) (Sp (cmpN x y<0) (fun h1=>And.intro (by have:=jf.1 (show cmpN x y<0 by assumption);omega:0=x-y) ((if_pos (jf.1 (by assumption))).symm:7=subC x y)) (fun h2=>have hp0:=(show y≤x from Nat.le_of_not_lt (mt jf.2 (by assumption)));I (?_:y≤x) (And.intro (Eq.refl (x-y)) ((if_neg (by omega)).symm:0=subC x y))))⟩<;>omega)
abbrev q0K:Ctr Tryz.prog:=FI.c q0M
abbrev q0I:FI:=⟨78,[.mag,.mag],[(.n 1099511627776),(.n 1099511627776)],fun _=>[],fun b z=>(fun(x:Nat)(y:Nat)=> .c (.one (.dt .mag (.n ((b0 b).nb+(b1 b).nb)) (x*y)))) z.1 z.2⟩
theorem q0J:q0I.OK Tryz.prog:=mkF hmix 67 Tryz.func78 rfl rfl (by decide) [] (fun(x:Nat)(y:Nat) b hx hp=>qa (DR (Bnds.h2 hx).1.mag (Bnds.h2 hx).2.mag) rfl) (fun(x:Nat)(y:Nat) hx hp=>by
 have hx0:lt2 x 1099511627776:=hx.1
 have hl0:(limbs x).length≤34359738369:=qg (Nat.le_of_lt hx0)
 have hx1:lt2 y 1099511627776:=hx.2
 have hl1:(limbs y).length≤34359738369:=qg (Nat.le_of_lt hx1)
 refine⟨.h 1 5 (.mk (.arr (.nat .u32) (.n 4294967295))) (.loop [.s 6 (.nat .i64) (.n 34359738369),.a 14 (.nat .u32) (.n 4294967295)] (fun((i,out):Nat×List Nat)=>MulI x y i out) (fun((i,out):Nat×List Nat)=>(limbs x).length-i) (fun((i,out):Nat×List Nat)=> .cond (.loop [.s 8 (.nat .i64) (.n 34359738369),.s 7 (.nat .u64) (.n 4294967295),.a 14 (.nat .u32) (.n 4294967295)] (fun((j,c,out2):Nat×Nat×List Nat)=>MulJ x y i ((limbs x).getD i 0) j c out out2) (fun((j,c,out2):Nat×Nat×List Nat)=>(limbs y).length-j) (fun((j,c,out2):Nat×Nat×List Nat)=> .nil)) (.pre 13 (.frz 14 true [5]) (.h 13 1 (.c wv) (.nil))))),kcast (by kernel_rfl) (I (?_:((limbs x).length)+((limbs y).length)=((limbs x).length)+((limbs y).length)) (I (MulI.start x y:MulI x y 0 (List.replicate (((limbs x).length)+((limbs y).length)) (0:Nat))) (fun(i:Nat)(out:List Nat)(hb1:HB [.s 6 (.nat .i64) (.n 34359738369),.a 14 (.nat .u32) (.n 4294967295)] (i,out))(hM:MulI x y i out)=>have hv10:=(show i≤34359738369 from hb1.1);have hv11:=(show∀u∈out,u≤4294967295 from hb1.2);have hMl:=hM.hl;have hMi:=hM.hi;Sp (i<(limbs x).length) (fun h2=>I (MulJ.start hM:MulJ x y i ((limbs x).getD i 0) 0 0 out out) (fun(j:Nat)(c:Nat)(out2:List Nat)(hb3:HB [.s 8 (.nat .i64) (.n 34359738369),.s 7 (.nat .u64) (.n 4294967295),.a 14 (.nat .u32) (.n 4294967295)] (j,c,out2))(hJ:MulJ x y i ((limbs x).getD i 0) j c out out2)=>have hv6:=(show j≤34359738369 from hb3.1);have hv7:=(show c≤4294967295 from hb3.2.1);have hv8:=(show∀u∈out2,u≤4294967295 from hb3.2.2);have hJl:=hJ.hl;have hJj:=hJ.hj;have hJc:=hJ.hc;Sp (j<(limbs y).length) (fun h4=>I (?_:i<(limbs x).length) (I (?_:j<(limbs y).length) (I (?_:i+j<((limbs x).length)+((limbs y).length)) (I (?_:i+j<out2.length) (I (?_:i+j<((limbs x).length)+((limbs y).length)) (I (?_:i+j<out2.length) (I (show(j+1)≤34359738369 by omega:Bnd (.nat .i64) (.n 34359738369) (j+1)) (And.intro ((hJ.step (by omega) (by omega) (q8 x i) rfl).1:MulJ x y i ((limbs x).getD i 0) (j+1) ((c+((((limbs x).getD i 0)*((limbs y).getD j 0))+(out2.getD (i+j) 0)))/2^32) out (out2.set (i+j) ((c+((((limbs x).getD i 0)*((limbs y).getD j 0))+(out2.getD (i+j) 0)))%4294967296))) (?_:(limbs y).length-(j+1)<(limbs y).length-j))))))))) (fun h5=>I (?_:i+((limbs y).length)<((limbs x).length)+((limbs y).length)) (I (?_:i+((limbs y).length)<out2.length) (I (show(i+1)≤34359738369 by omega:Bnd (.nat .i64) (.n 34359738369) (i+1)) (And.intro (MulJ.fin' hM (by omega) hJ (by omega):MulI x y (i+1) (out2.set (i+((limbs y).length)) c)) (?_:(limbs x).length-(i+1)<(limbs x).length-i))))))) (fun h9=>I (?_:((limbs x).length)+((limbs y).length)=out.length) (have hF:=hM.fin' (by omega);I (hF.2: ∀u∈out,u<4294967296) ((hF.1:valL out=x*y)))))))⟩<;>omega)
abbrev Dx:Ctr Tryz.prog:=FI.c q0J
abbrev Pt:FI:=⟨222,[.mag,(.nat .u32)],[(.n 1099511627776),(.n 4294967295)],fun z=>(fun(x:Nat)(u:Nat)=>[0<u]) z.1 z.2,fun b z=>(fun(x:Nat)(u:Nat)=> .tup [.one (.dt .mag (b0 b) (x/u)),.one (.dt (.nat .u32) (b1 b) (x%u))]) z.1 z.2⟩
theorem Pu:Pt.OK Tryz.prog:=mkF hmix 43 Tryz.func222 rfl rfl (by decide) [] (fun(x:Nat)(u:Nat) b hx hp=>qu (qa ((Bnds.h2 hx).1.magLe (Nat.div_le_self _ _)) rfl) (qu (qa ((Bnds.h2 hx).2.natLe (Nat.le_of_lt (Nat.mod_lt _ (hp _ (List.mem_cons_self))))) rfl) jh)) (fun(x:Nat)(u:Nat) hx hp=>by
 have hx0:lt2 x 1099511627776:=hx.1
 have hl0:(limbs x).length≤34359738369:=qg (Nat.le_of_lt hx0)
 have hx1:u≤4294967295:=hx.2
 have hp0:0<u:=hp _ (List.mem_cons_self)
 refine⟨.h 1 2 (.mk (.arr (.nat .u32) (.n 4294967295))) (.loop [.s 8 (.int .i64) (.n 34359738370),.s 7 (.nat .u64) (.n 4294967295),.a 11 (.nat .u32) (.n 4294967295)] (fun((z,r,out):Int×Nat×List Nat)=>SmallZ x u z r out) (fun((z,r,out):Int×Nat×List Nat)=>(z+1).toNat) (fun((z,r,out):Int×Nat×List Nat)=> .cond (.h 6 4 (.ix z.toNat) (.h 6 7 (.i (.n ((r*2^32)+((limbs x).getD z.toNat 0)) 18446744073709551615)) (.h 7 7 (.ix z.toNat) (.nil)))) (.pre 9 (.frz 11 true [6,7]) (.h 9 1 (.c wv) (.nil))))),kcast (by kernel_rfl) (I (?_:(limbs x).length=(limbs x).length) (I (SmallZ.start hp0:SmallZ x u ((((limbs x).length:Nat):Int) -1) 0 (List.replicate ((limbs x).length) (0:Nat))) (fun(z:Int)(r:Nat)(out:List Nat)(hb1:HB [.s 8 (.int .i64) (.n 34359738370),.s 7 (.nat .u64) (.n 4294967295),.a 11 (.nat .u32) (.n 4294967295)] (z,r,out))(hI:SmallZ x u z r out)=>have hv4:=(show Int.natAbs z≤34359738370 from hb1.1);have hv5:=(show r≤4294967295 from hb1.2.1);have hv6:=(show∀u∈out,u≤4294967295 from hb1.2.2);have hB:=hI.b;Sp (0≤z) (fun h2=>I (?_:z=((z.toNat:Nat):Int)) (I (?_:z.toNat<(limbs x).length) (I (AD _ 32 rfl (q8 _ _) (by have:=q8 x z.toNat;omega):qw .or .u64 ((r*2^32:Nat):Int) (((limbs x).getD z.toNat 0:Nat):Int) (((r*2^32)+((limbs x).getD z.toNat 0):Nat):Int)) (I (by have:=q8 x z.toNat;omega:(r*2^32)+((limbs x).getD z.toNat 0)≤18446744073709551615) (I (?_:0<u) (I (?_:z=((z.toNat:Nat):Int)) (I (?_:z.toNat<(limbs x).length) (I (?_:z.toNat<out.length) (I (?_:0<u) (I (show Int.natAbs (z-1)≤34359738370 by omega:Bnd (.int .i64) (.n 34359738370) (z-1)) (And.intro (hI.step (by omega) rfl:SmallZ x u (z-1) (((r*2^32)+((limbs x).getD z.toNat 0))%u) (out.set z.toNat ((((r*2^32)+((limbs x).getD z.toNat 0))/u)%4294967296))) (?_:((z-1)+1).toNat<(z+1).toNat)))))))))))) (fun h3=>I (?_:(limbs x).length=out.length) (have hF:=hI.fin (by omega);I (hF.2.2: ∀u∈out,u<4294967296) (And.intro (hF.1:valL out=x/u) (hF.2.1:r=x%u)))))))⟩<;>omega)
abbrev Ps:Ctr Tryz.prog:=FI.c Pu
abbrev S6:FI:=⟨226,[.mag,(.nat .u32)],[(.n 1099511627776),(.n 4294967295)],fun _=>[],fun b z=>(fun(x:Nat)(u:Nat)=> .c (.one (.dt .mag (.n ((b0 b).nb+(Nat.log2 (b1 b).nb+1))) (x*u)))) z.1 z.2⟩
theorem S7:S6.OK Tryz.prog:=mkF hmix 10 Tryz.func226 rfl rfl (by decide) [(78,.c Dx),(150,.c Ig)] (fun(x:Nat)(u:Nat) b hx hp=>qa (DR (Bnds.h2 hx).1.mag (zo (Bnds.h2 hx).2.nat)) rfl) (fun(x:Nat)(u:Nat) hx hp=>by
 refine⟨.nil,kcast (by kernel_rfl) ((Eq.refl (x*u)))⟩)
abbrev S5:Ctr Tryz.prog:=FI.c S7
abbrev S3:FI:=⟨221,[.mag],[(.n 1099511627776)],fun _=>[],fun b z=>(fun(x:Nat)=> .tup [.one (.dt (.nat .u64) (.n 18446744073709551615) (xw x)),.one (.dt .bool .u (xk x))]) z⟩
theorem S4:S3.OK Tryz.prog:=mkF hmix 26 Tryz.func221 rfl rfl (by decide) [] (fun(x:Nat) b hx hp=>qu (qa (q2m x) rfl) (qu (qa trivial rfl) jh)) (fun(x:Nat) hx hp=>by
 have hx0:lt2 x 1099511627776:=hx
 have hl0:(limbs x).length≤34359738369:=qg (Nat.le_of_lt hx0)
 refine⟨.cond (.nil) (.cond (.nil) (.cond (.h 7 9 (.i (.n (((limbs x).getD 0 0)+(((limbs x).getD 1 0)*2^32)) 18446744073709551615)) (.nil)) (.nil))),kcast (by kernel_rfl) (Sp ((limbs x).length=0) (fun h1=>And.intro (by rw[(xw_y (by omega)).1];exact(nl0.1 (by omega)).symm:0=xw x) ((xw_y (by omega)).2.symm:true=xk x)) (fun h2=>Sp ((limbs x).length=1) (fun h3=>I (?_:0<(limbs x).length) (And.intro (by rw[(xw_y (by omega)).1];exact M8 (by omega):(limbs x).getD 0 0=xw x) ((xw_y (by omega)).2.symm:true=xk x))) (fun h4=>Sp ((limbs x).length=2) (fun h5=>I (?_:0<(limbs x).length) (I (?_:1<(limbs x).length) (I (F9 _ 32 rfl (q8 _ _) (by have:=q8 x 0;have:=q8 x 1;omega):qw .or .u64 (((limbs x).getD 0 0:Nat):Int) ((((limbs x).getD 1 0)*2^32:Nat):Int) ((((limbs x).getD 0 0)+(((limbs x).getD 1 0)*2^32):Nat):Int)) (I (by have:=q8 x 0;have:=q8 x 1;omega:((limbs x).getD 0 0)+(((limbs x).getD 1 0)*2^32)≤18446744073709551615) (And.intro (by rw[(xw_y (by omega)).1];exact P8 (by omega):((limbs x).getD 0 0)+(((limbs x).getD 1 0)*2^32)=xw x) ((xw_y (by omega)).2.symm:true=xk x)))))) (fun h6=>And.intro ((xw_n (by omega)).1.symm:0=xw x) ((xw_n (by omega)).2.symm:false=xk x)))))⟩<;>omega)
abbrev K9:Ctr Tryz.prog:=FI.c S4
abbrev Xi:FI:=⟨223,[.mag],[(.n 1099511627776)],fun _=>[],fun b z=>(fun(x:Nat)=> .c (.one (.dt (.nat .i64) (b0 b) (bl x)))) z⟩
theorem Xj:Xi.OK Tryz.prog:=mkF hmix 25 Tryz.func223 rfl rfl (by decide) [] (fun(x:Nat) b hx hp=>qa (N6 (Bnds.h1 hx)) rfl) (fun(x:Nat) hx hp=>by
 have hx0:lt2 x 1099511627776:=hx
 have hl0:(limbs x).length≤34359738369:=qg (Nat.le_of_lt hx0)
 refine⟨.cond (.nil) (.h 3 2 (.i .sub) (.h 4 3 (.i .sub) (.loop [.s 3 (.nat .i64) (.n 1099511627872),.s 4 (.nat .u32) (.n 4294967295)] (fun((k,v):Nat×Nat)=>k+bl v=bl x) (fun((k,v):Nat×Nat)=>v) (fun((k,v):Nat×Nat)=> .nil)))),kcast (by kernel_rfl) (Sp ((limbs x).length=0) (fun h1=>(by have:=(nl0 (x:=x)).1 (by omega);subst this;rfl:0=bl x)) (fun h2=>have hpos:=(show 0<(limbs x).length by omega);have hBB:=Gg hpos;I (?_:1≤(limbs x).length) (I (?_:1≤(limbs x).length) (I (?_:((limbs x).length) -1<(limbs x).length) (I (hBB:(32*(((limbs x).length) -1))+bl ((limbs x).getD (((limbs x).length) -1) 0)=bl x) (fun(k:Nat)(v:Nat)(hb3:HB [.s 3 (.nat .i64) (.n 1099511627872),.s 4 (.nat .u32) (.n 4294967295)] (k,v))(hC:k+bl v=bl x)=>have hv6:=(show k≤1099511627872 from hb3.1);have hv7:=(show v≤4294967295 from hb3.2);have hbx:=(Fb hx0:bl x≤1099511627776);Sp (v≠0) (fun h4=>I (show(k+1)≤1099511627872 by omega:Bnd (.nat .i64) (.n 1099511627872) (k+1)) (And.intro (by have:=Th (v:=v) (by omega);omega:(k+1)+bl (v/2^1)=bl x) (?_:v/2^1<v))) (fun h5=>(by have e:v=0:=(by omega);rw[e,DA]at hC;omega:k=bl x))))))))⟩<;>omega)
abbrev Xh:Ctr Tryz.prog:=FI.c Xj
end Go.Proofs.YtchgnllhbcadpaaGreat.Sx
