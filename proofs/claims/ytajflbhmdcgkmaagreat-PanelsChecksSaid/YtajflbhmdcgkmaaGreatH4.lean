/-
Own laws, part 4. No condition.
-/
import Derived.Test.YtajflbhmdcgkmaaGreatH3
namespace Go.Proofs.YtajflbhmdcgkmaaGreat.Sx
open Go Go.Proofs
set_option linter.unusedVariables false
set_option linter.unusedSimpArgs false
set_option maxRecDepth 20000
set_option maxHeartbeats 4000000
theorem AddI.fin'{x y i c:Nat}{out:List Nat}(h:AddI x y i c out)(hi:i=(limbs x).length)(hyx:(limbs y).length<=(limbs x).length):
  qa (out.set (limbs x).length c)=x+y/\(∀u∈out.set (limbs x).length c,u<4294967296):=by
 subst hi;have e:c%4294967296=c:=q6j (by have:=h.hc;omega);have:=h.fin hyx
 rwa [e]at this
theorem F0(x:Nat):argsE [.mag] x=argsE [.sl (.nat .u32)] (limbs x):=by
 show[argC .mag x]=[argC (.sl (.nat .u32)) (limbs x)];unfold argC;rw[BM];rfl
theorem qS{l:List Nat}{i:Nat}(h: ¬i<l.length):l.getD i 0=0:=by
 rw[q5y,q5D (by omega)];rfl
theorem HO{l:List Nat}{n i x:Nat}(h:n=l.length):n=(l.set i x).length:=by rw[q6S];exact h
theorem MulJ.fin'{x y i j c:Nat}{o0 out:List Nat}(hI:MulI x y i o0)(hi:i<(limbs x).length)(h:MulJ x y i ((limbs x).getD i 0) j c o0 out)(hj:j=(limbs y).length):
  MulI x y (i+1) (out.set (i+(limbs y).length) c):=by
 subst hj;have:=MulJ.fin hI hi h
 rwa [q6j h.hc]at this
theorem MulI.fin'{x y i:Nat}{out:List Nat}(h:MulI x y i out)(hi:i=(limbs x).length):qa out=x*y/\ ∀u∈out,u<4294967296:=by subst hi;exact⟨h.fin,h.hu⟩
theorem SubI.fin'{x y i c:Nat}{out:List Nat}(h:SubI x y i c out)(hi:i=(limbs x).length)(hxy:y<=x):qa out=x-y/\(∀u∈out,u<4294967296):=by subst hi;exact h.fin hxy
theorem w7{a s:Nat}(ha:a<18446744073709551616)(hs:s<=18446744073709551616):qU .sub .u64 (a:Int) (s:Int) ((dif a s:Nat):Int):=Wq ha hs
theorem zK(a s:Nat):dif a s<=18446744073709551615:=q6c wx
theorem CY{a b:Nat}(x s:Nat)(hab:a=x*2^s)(hb:b<2^s)(h:a+b<18446744073709551616):qU .or .u64 (a:Int) (b:Int) ((a+b:Nat):Int):=NT x s hab hb h
theorem Hv{a b:Nat}(x s:Nat)(hab:a=x*2^s)(hb:b<2^s)(h:b+a<18446744073709551616):qU .or .u64 (b:Int) (a:Int) ((b+a:Nat):Int):=Tk x s hab hb h
theorem Vr{a b:Nat}(x s:Nat)(hab:a=x*2^s)(hb:b<2^s)(h:b+a<4294967296):qU .or .u32 (b:Int) (a:Int) ((b+a:Nat):Int):=Xt x s hab hb h
theorem L9{a:Nat}(h:a<18446744073709551616):qU .and .u64 (a:Int) 4294967295 ((a%4294967296:Nat):Int):=Sy h
theorem La{k:IntKind}(x s:Nat)(h:s<=k.bits):qU .shr k (x:Int) (s:Int) ((x/2^s:Nat):Int):=⟨q5q _,shrN x s h⟩
theorem Hw(x s:Nat)(h:s<=64)(hx:x*2^s<18446744073709551616):qU .shl .u64 (x:Int) (s:Int) ((x*2^s:Nat):Int):=⟨q5q _,TL x s h hx⟩
theorem Vs(x s:Nat)(h:s<=32):qU .shl .u32 (x:Int) (s:Int) ((x*2^s%4294967296:Nat):Int):=⟨q5q _,TM x s h⟩
theorem IU(x y:Nat):qU .add .u32 (x:Int) (y:Int) (((x+y)%4294967296:Nat):Int):=by
 show IntKind.u32.wrap ((x:Int)+y)=_;rw[<-Int.natCast_add];exact NN _
theorem Nh{x u i r:Nat}{out:List Nat}(h:SmallI x u i r out)(hi:i=0):qa out=x/u/\r=x%u/\ ∀v∈out,v<4294967296:=by subst hi;exact⟨h.fin.1,h.fin.2,h.hu⟩
structure CmpI (x y:Nat) (z:Int):Prop where
 h0: -1<=z
 h1:z<(limbs x).length
 hd:(limbs x).drop (z+1).toNat=(limbs y).drop (z+1).toNat
theorem CmpI.start{x y:Nat}(h:(limbs x).length=(limbs y).length):CmpI x y (((limbs x).length:Int) -1):=by
 refine⟨by omega,by omega,?_⟩;rw[show((((limbs x).length:Int) -1)+1).toNat=(limbs x).length by omega,List.drop_length,h,List.drop_length]
theorem CmpI.at{x y:Nat}{z:Int}(hl:(limbs x).length=(limbs y).length)(h:CmpI x y z)(hz:0<=z):
  ((limbs x).getD z.toNat 0=(limbs y).getD z.toNat 0->CmpI x y (z-1))/\((limbs x).getD z.toNat 0<(limbs y).getD z.toNat 0->j3 x y= -1)/\((limbs y).getD z.toNat 0<(limbs x).getD z.toNat 0->j3 x y=1):=by
 have h1:=h.h1;have hd:=h.hd;rw[show(z+1).toNat=z.toNat+1 by omega]at hd;have q:=LG hl (show z.toNat<(limbs x).length by omega) hd;have q':=LG hl.symm (show z.toNat<(limbs y).length by omega) hd.symm;refine⟨λe=>⟨by omega,by omega,?_⟩,λe=>?_,λe=>?_⟩
 .rw[show(z-1+1).toNat=z.toNat by omega];exact q.1 e
 .have:=q.2 e;rw[j3,if_pos this]
 .have:=q'.2 e;rw[j3,if_neg (by omega),if_neg (by omega)]
theorem CmpI.fin{x y:Nat}{z:Int}(h:CmpI x y z)(hz:z<0):j3 x y=0:=by
 have h0:=h.h0;have hd:=h.hd;rw[show(z+1).toNat=0 by omega]at hd;exact DJ.2 (q0W hd)
theorem LE{x y:Nat}(h:(limbs x).length<(limbs y).length):j3 x y= -1:=by rw[j3,if_pos (HM h)]
theorem LF{x y:Nat}(h:(limbs y).length<(limbs x).length):j3 x y=1:=by
 have:=HM h;rw[j3,if_neg (by omega),if_neg (by omega)]
theorem Nv(x y:Nat):(j3 x y).natAbs<=1:=by have:=q3E x y;omega
theorem Bnd.magLe{b:Bd}{x y:Nat}(h:Bnd .mag b x)(k:y<=x):Bnd .mag b y:=by
 cases b with
 |n b=>exact CH h k
 |_=>exact h.elim
structure SmallZ (x u:Nat) (z:Int) (r:Nat) (out:List Nat):Prop where
 h0: -1<=z
 h:SmallI x u (z+1).toNat r out
theorem SmallZ.start{x u:Nat}(hu:0<u):SmallZ x u (((limbs x).length:Int) -1) 0 (List.replicate (limbs x).length 0):=by
 refine⟨by omega,?_⟩;rw[show((((limbs x).length:Int) -1)+1).toNat=(limbs x).length by omega];exact SmallI.start hu
theorem SmallZ.b{x u r:Nat}{z:Int}{out:List Nat}(h:SmallZ x u z r out): -1<=z/\z<(limbs x).length/\out.length=(limbs x).length/\r<u:=by
 have h0:=h.h0;have h1:=h.h.hi;exact⟨h0,by omega,h.h.hl,h.h.hr⟩
theorem SmallZ.step{x u r d:Nat}{z:Int}{out:List Nat}(h:SmallZ x u z r out)(hz:0<=z)(hd:d=r*2^32+(limbs x).getD z.toNat 0):
  SmallZ x u (z-1) (d%u) (out.set z.toNat (d/u%4294967296)):=by
 refine⟨by omega,?_⟩;have e1:(z+1).toNat-1=z.toNat:=by omega
 have:=h.h.step (d:=d) (by omega) (by rw[e1];exact hd);rw[show(z-1+1).toNat=z.toNat by omega]
 rwa [e1]at this
theorem SmallZ.fin{x u r:Nat}{z:Int}{out:List Nat}(h:SmallZ x u z r out)(hz:z<0):qa out=x/u/\r=x%u/\ ∀v∈out,v<4294967296:=
 Nh h.h (by omega)
structure WordZ (x:Nat) (z:Int) (v:Nat):Prop where
 h0: -1<=z
 h1:z<(limbs x).length
 hv:v=qa ((limbs x).drop (z+1).toNat)
theorem WordZ.start(x:Nat):WordZ x (((limbs x).length:Int) -1) 0:=by
 refine⟨by omega,by omega,?_⟩;rw[show((((limbs x).length:Int) -1)+1).toNat=(limbs x).length by omega,List.drop_length];rfl
theorem WordZ.lt{x v:Nat}{z:Int}(h:WordZ x z v)(hx:(limbs x).length<=2)(hz:0<=z):v<4294967296:=by
 rw[h.hv];exact Yb hx (by omega)
theorem WordZ.step{x v:Nat}{z:Int}(h:WordZ x z v)(hz:0<=z):WordZ x (z-1) (v*2^32+(limbs x).getD z.toNat 0):=by
 have h1:=h.h1;refine⟨by omega,by omega,?_⟩;have:=Si (x:=x) (i:=z.toNat) (by omega);rw[show z.toNat+1=(z+1).toNat by omega,<-h.hv]at this;rw[show(z-1+1).toNat=z.toNat by omega];exact this
theorem WordZ.fin{x v:Nat}{z:Int}(h:WordZ x z v)(hz:z<0):v=x:=by
 have h0:=h.h0;have:=h.hv
 rwa [show(z+1).toNat=0 by omega,q5v,qN]at this
theorem RaiseI.fin'{x s i c:Nat}{out:List Nat}(h:RaiseI x s i c out)(hi:i=(limbs x).length)(hs:s<=32):
  out.set (limbs x).length c=padL (x*2^s) ((limbs x).length+1):=by
 subst hi;have hc:c<4294967296:=q6g h.hc (q6v (show 0<2 by omega) hs);have:=h.fin hs
 rwa [q6j hc]at this
theorem Ml(v n:Nat): ∀u∈padL v n,Bnd (.nat .u32) (.n 4294967295) u:=λu hu=>q6c (Gc n v u hu)
theorem NM{b:Bd}{x:Nat}(h:Bnd .mag b x):(limbs x).length<=b.nb/32+1:=qq (q6b h.mag)
theorem Bnd.natLe{k:IntKind}{b:Bd}{x y:Nat}(h:Bnd (.nat k) b x)(hy:y<=x):Bnd (.nat k) b y:=by
 cases b with
 |n b=>exact q6e hy h
 |_=>exact h.elim
theorem magE(x:Nat)(b c:Bd):(WV.c (.one (.dt (.sl (.nat .u32)) b (limbs x)))).exp=(WV.c (.one (.dt .mag c x))).exp:=by
 show AV.c (.one ((qO (.sl (.nat .u32)) (limbs x)).headD _))=AV.c (.one ((qO .mag x).headD _));rw[BM]
theorem Ji{ls:List Nat}(h: ∀u∈ls,u<4294967296):(limbs (qa ls)).length<=ls.length:=
 G9 (k:=ls.length) (vH ls h)
theorem C1{x m:Nat}(h:x<2^m):bl x<=m:=by
 rcases q69 x with e|e
 .subst e;rw[FJ];exact q6A _
 .have h2:=FH (n:=x) (by omega)
  have h3:2^(bl x-1)<2^m:=q6f h2 h;have:=(Nat.pow_lt_pow_iff_right (show 1<2 by omega)).1 h3;omega
theorem Yn{x b:Nat}(h:x<=b):bl x<=Nat.log2 b+1:=C1 (q6f h Nat.lt_log2_self)
theorem PU{b:Bd}{k:IntKind}{x:Nat}(h:Bnd .mag b x):Bnd (.nat k) b (bl x):=by
 cases b with
 |n b=>exact C1 h
 |_=>exact h.elim
theorem Ia(x:Nat):IntKind.u8.wrap (x:Int)=((x%256:Nat):Int):=by
 simp only[IntKind.wrap,IntKind.bits,IntKind.signed];simp
theorem L8{a b:Nat}(h:a+b<=18446744073709551615):qU .add .u64 (a:Int) (b:Int) ((a+b:Nat):Int):=by
 show IntKind.u64.wrap ((a:Int)+b)=_;rw[<-Int.natCast_add];exact Ak (by omega)
structure DivZ (x y s:Nat) (z:Int) (ls ql:List Nat):Prop where
 h0: -1<=z
 h:DivI x y s (z+1).toNat ls ql
theorem DivZ.b{x y s:Nat}{z:Int}{ls ql:List Nat}(h:DivZ x y s z ls ql): -1<=z/\(z+1).toNat<=(limbs x).length+1-(limbs y).length/\ls.length=(limbs x).length+1/\ql.length=(limbs x).length+1-(limbs y).length:=
 ⟨h.h0,h.h.hi,h.h.hl,h.h.hql⟩
theorem DivZ.at{x y s j:Nat}{z:Int}{ls ql:List Nat}(h:DivZ x y s z ls ql)(hz:0<=z)(hj:j=z.toNat):DivI x y s (j+1) ls ql:=by
 have:=h.h
 rwa [show(z+1).toNat=j+1 by omega]at this
theorem DivZ.of{x y s j:Nat}{z:Int}{ls ql:List Nat}(hz:0<=z)(hj:j=z.toNat)(h:DivI x y s j ls ql):DivZ x y s (z-1) ls ql:=
 ⟨by omega,by rwa [show(z-1+1).toNat=j by omega]⟩
theorem DivZ.start{x y s n:Nat}(c:DivC x y s)(hn:n=(limbs x).length+1-(limbs y).length):DivZ x y s ((n:Int) -1) (padL (x*2^s) ((limbs x).length+1)) (List.replicate n 0):=by
 have:=c.hyx;subst hn;refine⟨by omega,?_⟩;rw[show((((limbs x).length+1-(limbs y).length:Nat):Int) -1+1).toNat=(limbs x).length+1-(limbs y).length by omega];exact DivI.start c
theorem DivZ.fin{x y s:Nat}{z:Int}{ls ql:List Nat}(h:DivZ x y s z ls ql)(hz:z<0):qa ql=x/y/\qa ls=x%y*2^s/\(∀u∈ql,u<4294967296)/\ ∀u∈ls,u<4294967296:=by
 have h0:=h.h0;have:=h.h;rw[show(z+1).toNat=0 by omega]at this;exact⟨this.fin.1,this.fin.2,this.hqu,this.hu⟩
theorem AbI.top'{y s j c:Nat}{l0 ls:List Nat}{n:Nat}(h:AbI y s j l0 n c ls)(hn:(limbs (y*2^s)).length=n)(hj:j+n<l0.length):
  ∃c2,qa ((ls.set (j+n) ((ls.getD (j+n) 0+c)%4294967296)).take (j+n+1))+4294967296^(j+n+1)*c2=qa (l0.take (j+n+1))+4294967296^j*(y*2^s)/\
  (ls.set (j+n) ((ls.getD (j+n) 0+c)%4294967296)).drop (j+n+1)=l0.drop (j+n+1)/\(ls.set (j+n) ((ls.getD (j+n) 0+c)%4294967296)).length=l0.length/\
  ∀u∈ls.set (j+n) ((ls.getD (j+n) 0+c)%4294967296),u<4294967296:=by
 have:=h.top hn hj
 rwa [q6j (show c<4294967296 by have:=h.hc;omega)]at this
theorem DownI.fin'{W s N i n:Nat}{ls:List Nat}(h:DownI W s N i ls)(hi: ¬i<(limbs W).length)(hn:n=(limbs W).length):qa (ls.take n)=W/2^s/\ ∀u∈ls.take n,u<4294967296:=by
 have h1:=h.hi;have e:i=(limbs W).length:=by omega
 subst hn e;exact⟨h.fin,λu hu=>h.hu u (q5T hu)⟩
theorem R8{y s m:Nat}(hy:qM y m)(hs:s<=32):qM (y*2^s) (m+32):=by
 unfold qM at*;rw[q6u];exact q6g (Nat.mul_lt_mul_of_pos_right hy (q6w (by omega))) (q6q _ (q6v (by omega) hs))
theorem K8{a s c:Nat}(ha:a<4294967296)(hs:s<=32)(hc:c<2^s):c+a*2^s<18446744073709551616:=by
 have h1:(2:Nat)^s<=4294967296:=q6v (show 0<2 by omega) hs;have h2:(a+1)*2^s<=4294967296*4294967296:=q6p ha h1;rw[q63]at h2;omega
theorem Nz{s i:Nat}{l:List Nat}(hs:s<=32)(hu: ∀k,l.getD k 0<4294967296)(hi:i<l.length):
  qU .or .u32 (((l.set i (l.getD i 0/2^s)).getD i 0:Nat):Int) (((l.set i (l.getD i 0/2^s)).getD (i+1) 0*2^(32-s)%4294967296:Nat):Int)
   (((l.set i (l.getD i 0/2^s)).getD i 0+(l.set i (l.getD i 0/2^s)).getD (i+1) 0*2^(32-s)%4294967296:Nat):Int)/\
  (l.set i (l.getD i 0/2^s)).getD i 0+(l.set i (l.getD i 0/2^s)).getD (i+1) 0*2^(32-s)%4294967296<=4294967295:=by
 have h:=Wu hs (hu i) (hu (i+1));rw[EQ hi,Dy (by omega)];exact⟨Vr (l.getD (i+1) 0%2^s) (32-s) h.2.2 h.1 h.2.1,by omega⟩
theorem wK(a b:Nat):Nat.gcd b (a%b)=Nat.gcd a b:=by
 rw[Nat.gcd_comm b,<-Nat.gcd_rec,Nat.gcd_comm]
def subC(x y:Nat):Int:=if x<y then 7 else 0
theorem S4(x y:Nat):(subC x y).natAbs<=7:=by unfold subC;split<;>decide
theorem IE{x y:Nat}:subC x y=0↔y<=x:=by unfold subC;split<;>omega
def sgI(neg:Bool)(n:Nat):Int:=if neg then-(n:Int)else n
def qg(neg:Bool)(n d:Nat):Rat:=mkRat (sgI neg n) d
theorem O8(neg:Bool)(n:Nat):(sgI neg n).natAbs=n:=by unfold sgI;split<;>simp
theorem EL(neg:Bool)(d:Nat):qg neg 0 d=0:=by unfold qg sgI;cases neg<;>simp
theorem E3(neg:Bool)(n:Nat):qg neg n 0=0:=by unfold qg;simp[Rat.mkRat_zero]
theorem js{neg:Bool}{n d:Nat}(hd:0<d):(qg neg n d).num=sgI neg n/((Nat.gcd n d:Nat):Int)/\(qg neg n d).den=d/Nat.gcd n d:=by
 have h:qg neg n d=Rat.normalize (sgI neg n) d (by omega):=(Rat.normalize_eq_mkRat (by omega)).symm;have e:=Rat.normalize_eq (num:=sgI neg n) (den:=d) (by omega);rw[h,e];refine⟨?_,?_⟩
 .show sgI neg n/(((sgI neg n).natAbs.gcd d:Nat):Int)=_
  rw[O8]
 .show d/(sgI neg n).natAbs.gcd d=_
  rw[O8]
theorem jP{neg:Bool}{n d:Nat}(hd:0<d):(qg neg n d).num.natAbs=n/Nat.gcd n d:=by
 rw[(js hd).1];unfold sgI;have hg:(Nat.gcd n d)∣n:=Nat.gcd_dvd_left n d;obtain⟨k,hk⟩:=hg;have hg0:0<Nat.gcd n d:=Nat.gcd_pos_of_pos_right _ hd;generalize Nat.gcd n d=g at*;subst hk;rw[Nat.mul_div_cancel_left _ hg0];split
 .rw[q5p,<-Int.mul_neg,Int.mul_ediv_cancel_left _ (by omega)];simp
 .rw[q5p,Int.mul_ediv_cancel_left _ (by omega)];simp
theorem ve{neg:Bool}{n d:Nat}(hn:0<n)(hd:0<d):decide ((qg neg n d).num<0)=neg:=by
 rw[(js hd).1];have hg0:0<Nat.gcd n d:=Nat.gcd_pos_of_pos_right _ hd;obtain⟨k,hk⟩:=Nat.gcd_dvd_left n d;generalize Nat.gcd n d=g at*;subst hk;have hk0:0<k:=q6t (λe=>by subst e;simp at hn);unfold sgI;cases neg
 .simp only[q5n,if_false,q5p,Int.mul_ediv_cancel_left _ (show(g:Int)≠0 by omega)]
  simp
 .simp only[if_true]
  rw[q5p,<-Int.mul_neg,Int.mul_ediv_cancel_left _ (by omega)];simp;omega
theorem XZ(a b:Bool)(n m:Nat):sgI a n*sgI b m=sgI (decide (a≠b)) (n*m):=by
 cases a<;>cases b<;>simp[sgI,q5p,Int.neg_mul,Int.mul_neg]
theorem Mx(z:Int):sgI (decide (z<0)) z.natAbs=z:=by
 unfold sgI;split<;>simp_all<;>omega
theorem AO(x:Rat):qg (decide (x.num<0)) x.num.natAbs x.den=x:=by
 unfold qg;rw[Mx];exact Rat.mkRat_self x
theorem Oa(a b:Bool)(n m d e:Nat):qg a n d*qg b m e=qg (decide (a≠b)) (n*m) (d*e):=by
 unfold qg;rw[Rat.mkRat_mul_mkRat,XZ]
theorem Gh(x y:Rat):qg (decide (decide (x.num<0)≠decide (y.num<0))) (x.num.natAbs*y.num.natAbs) (x.den*y.den)=x*y:=by
 rw[<-Oa,AO,AO]
theorem Y0(a b:Bool)(n m:Nat){d e:Nat}(hd:0<d)(he:0<e):qg a n d+qg b m e=mkRat (sgI a (n*e)+sgI b (m*d)) (d*e):=by
 unfold qg;rw[Rat.mkRat_add_mkRat _ _ (by omega) (by omega)]
 congr 1
 unfold sgI;cases a<;>cases b<;>simp[q5p,Int.neg_mul]
theorem TK(a:Bool)(n m:Nat):sgI a n+sgI a m=sgI a (n+m):=by cases a<;>simp[sgI]<;>omega
theorem q30{a b:Bool}(h:a≠b){n m:Nat}(hm:m<=n):sgI a n+sgI b m=sgI a (n-m):=by
 cases a<;>cases b<;>simp_all [sgI]<;>omega
theorem q31{a b:Bool}(h:a≠b){n m:Nat}(hm:n<=m):sgI a n+sgI b m=sgI b (m-n):=by
 cases a<;>cases b<;>simp_all [sgI]<;>omega
theorem qT{neg:Bool}{n d p:Nat}(hn:qM n p)(hd:le2 d p)(h0:0<d):Bnd .rat (.n p) (qg neg n d):=by
 show qM _ _/\le2 _ _;rw[jP h0,(js h0).2];exact⟨CH hn (q65 _ _),q6e (q65 _ _) hd⟩
theorem Ap{x b:Nat}(h:x<=b):qM x (Nat.log2 b+1):=q6f h Nat.lt_log2_self
theorem v7{b:Bd}{x:Rat}(h:Bnd .rat b x):(WV.c (.agg [.dt .rat b x])).ok:=qB h
def nlw(v:Nat):Nat:=if v/2^32=0 then 1 else 2
def vS(l:List Nat)(lo v:Nat):List Nat:=if v/2^32=0 then l.set (lo+0) (v%4294967296)else(l.set (lo+0) (v%4294967296)).set (lo+1) (v/2^32)
theorem Ma(v:Nat):1<=nlw v/\nlw v<=2:=by unfold nlw;split<;>omega
theorem Mn(l:List Nat)(lo v:Nat):(vS l lo v).length=l.length:=by unfold vS;split<;>simp
theorem To{l:List Nat}{lo v:Nat}(hv:v<=18446744073709551615)(h: ∀u∈l,Bnd (.nat .u32) (.n 4294967295) u): ∀u∈vS l lo v,Bnd (.nat .u32) (.n 4294967295) u:=by
 have h1:=vF (n:=lo+0) (JD h) (q6k v (show 0<4294967296 by omega));unfold vS;split
 .exact λu hu=>q6c (h1 u hu)
 .exact λu hu=>q6c (vF h1 (show v/2^32<4294967296 by omega) u hu)
theorem J9{v:Nat}(h0:0<v)(hv:v<=18446744073709551615):limbs v=if v/2^32=0 then[v%4294967296]else[v%4294967296,v/2^32]:=by
 rw[zz (by omega)];split
 .rename_i h
  rw[show v/4294967296=0 by omega];rw[Ao]
 .rename_i h
  rw[zz (n:=v/4294967296) (by omega)];rw[show v/4294967296/4294967296=0 by omega,Ao,q6j (show v/4294967296<4294967296 by omega)]
theorem Oc{n:Nat}(h0:0<n)(hn:n<=18446744073709551615):(vS (List.replicate 4 (0:Nat)) 0 n).take (nlw n)=limbs n:=by
 rw[J9 h0 hn];unfold vS nlw
 split<;>simp[List.replicate]
theorem MA{n d:Nat}(h0:0<n)(hn:n<=18446744073709551615):(vS (vS (List.replicate 4 (0:Nat)) 0 n) (nlw n) d).take (nlw n)=limbs n:=by
 rw[J9 h0 hn];unfold vS nlw
 split<;>split<;>simp[List.replicate]
theorem Y1{n d:Nat}(h0:0<d)(hd:d<=18446744073709551615):((vS (vS (List.replicate 4 (0:Nat)) 0 n) (nlw n) d).drop (nlw n)).take (nlw n+nlw d-nlw n)=limbs d:=by
 rw[J9 h0 hd,Nat.add_sub_cancel_left];unfold vS nlw
 split<;>split<;>simp[List.replicate]
theorem CC{d:Nat}(h0:d≠0)(h:(denL d).length=0):d=1:=by
 unfold denL at h;split at h
 .assumption
 .exact absurd (nl0.1 h) h0
theorem C2{d:Nat}(h: ¬(denL d).length=0):denL d=limbs d:=by
 unfold denL at h⊢;split
 .rename_i e;rw[if_pos e]at h;exact absurd rfl h
 .rfl
theorem WH{a b p q:Nat}(ha:a<=p)(hb:b<=q):Nat.gcd a b<=max p q:=by
 rcases q69 a with e|e
 .subst e;rw[Nat.gcd_zero_left];omega
 .have:=Nat.gcd_le_left b e;omega
theorem zL{E:Nat}(h1:(limbs E).length=1)(h2:(limbs E).getD 0 0=1):E=1:=by
 have:=wO (x:=E) (by omega);rw[h1]at this;simp only[Nat.sub_self,List.take_zero,qa,h2]at this;omega
theorem zF{D E:Nat}(h:E=D)(hn: ¬((limbs E).length=1/\(limbs E).getD 0 0=1)):limbs E=denL D:=by
 subst h;unfold denL;rw[if_neg];intro e;subst e;exact hn ⟨q29,by rw[AS];rfl⟩
theorem P8{E:Nat}(h1:(limbs E).length=1):(limbs E).getD 0 0=E:=by
 have:=wO (x:=E) (by omega);rw[h1]at this;simp only[Nat.sub_self,List.take_zero,qa,Nat.pow_zero,Nat.one_mul,q6z]at this;exact this.symm
def bigQ(x:Rat):Prop:=1<(limbs x.num.natAbs).length\/1<(denL x.den).length
instance(x:Rat):Decidable (bigQ x):=by unfold bigQ;infer_instance
def pn(x:Rat):Nat:=if bigQ x then 0 else x.num.natAbs
def pd(x:Rat):Nat:=if bigQ x then 0 else x.den
def pb(x:Rat):Bool:=decide (¬bigQ x)
theorem Rj{x:Nat}(h:(limbs x).length<=1):x<4294967296:=by
 have h1:=vH (limbs x) (jr x);rw[qN]at h1;exact q6g h1 (q6v (n:=4294967296) (by omega) h)
theorem Ir(x:Rat):pn x<=4294967295:=by
 unfold pn;split
 .omega
 .rename_i h;unfold bigQ at h;exact q6c (Rj (by omega))
theorem SD{d:Nat}(h:(denL d).length<=1):d<4294967296:=by
 unfold denL at h;split at h
 .omega
 .exact Rj h
theorem Iq(x:Rat):pd x<=4294967295:=by
 unfold pd;split
 .omega
 .rename_i h;unfold bigQ at h;exact q6c (SD (by omega))
theorem Gb{x:Rat}(h:bigQ x):0=pn x/\0=pd x/\false=pb x:=by simp[pn,pd,pb,h]
theorem p_sm{x:Rat}(h: ¬bigQ x):x.num.natAbs=pn x/\x.den=pd x/\pb x=true:=by simp[pn,pd,pb,h]
theorem Di{x:Rat}(h:pb x=true):pn x=x.num.natAbs/\pd x=x.den/\0<pd x:=by
 have h: ¬bigQ x:=by simpa[pb]using h
 have:=p_sm h;have:=x.den_nz;omega
theorem Qm{d:Nat}(h:(denL d).length=1):(denL d).getD 0 0=d:=by
 have h': ¬(denL d).length=0:=by omega
 rw[C2 h']at h⊢;exact P8 h
theorem Hg{neg:Bool}{n d p:Nat}(hn:qM n p)(hd:qM d p):Bnd .rat (.n p) (qg neg n d):=by
 rcases q69 d with e|e
 .subst e;rw[E3]
  exact⟨q6w (by decide),q6w (by decide)⟩
 .exact qT hn (j0 hd) e
theorem PV{g:Nat}(h0:0<g)(h:bl g<=1):g=1:=by
 have h1:=Hy g;have h2:2^bl g<=2^1:=q6v (by decide) h;omega
theorem DA{x y:Rat}{b c:Bd}(hx:Bnd .rat b x)(hy:Bnd .rat c y):Bnd .rat (.n (b.nb+c.nb)) (x*y):=by
 rw[<-Gh];exact qT (G7 hx.rat.1 hy.rat.1) (NK hx.rat.2 hy.rat.2) (q6s x.den_pos y.den_pos)
theorem Ae{x:Rat}(h:x.num.natAbs=0):x=0:=by
 have:x.num=0:=Int.natAbs_eq_zero.1 h;exact Rat.num_eq_zero.1 this
theorem O9(v:Int):qg (decide (v<0)) v.natAbs 1=(v:Rat):=by
 unfold qg;rw[Mx];exact(Rat.mkRat_one v)
theorem DQ{v:Int}{b:Nat}(h:v.natAbs<=b):Bnd .rat (.n (Nat.log2 b+1)) (v:Rat):=by
 rw[<-O9];exact qT (Ap h) (Nat.one_le_two_pow) (by decide)
def jf(x:Rat):Int:=if x.num.natAbs=0 then 0 else if x.num<0 then-1 else 1
theorem Mz(x:Rat):(jf x).natAbs<=1:=by
 unfold jf;split
 .decide
 .split<;>decide
theorem IZ{l m:List Nat}{i:Nat}(hl:l.length=m.length)(h:l.take i=m.take i)(hi:i<l.length):(l.getD i 0=m.getD i 0->l.take (i+1)=m.take (i+1))/\(l.getD i 0≠m.getD i 0->l≠m):=by
 refine⟨λe=>?_,λe e2=>e (by rw[e2])⟩;rw[q60 hi,q60 (by omega),h];simp only[q5y,q5C hi,q5C (show i<m.length by omega),Option.getD_some]at e;rw[e]
theorem Fi {x y : Rat} (h : y.num.natAbs ≠ 0) : qg (decide (decide (x.num < 0) ≠ decide (y.num < 0))) (x.num.natAbs * y.den) (x.den * y.num.natAbs) = x / y := by
 have e : y⁻¹ = qg (decide (y.num < 0)) y.den y.num.natAbs := by
  conv => lhs; rw [<- Rat.num_divInt_den y]
  rw [Rat.inv_divInt];unfold qg sgI;by_cases hn : y.num < 0
  .simp only [hn, decide_true, if_true]
   rw [<- Rat.divInt_ofNat, <- Rat.neg_divInt_neg]
   congr 1; omega
  .simp only [hn, decide_false, q5n, if_false]
   rw [<- Rat.divInt_ofNat]
   congr 1; omega
 rw [Rat.div_def, e]
 conv => rhs; rw [<- AO x]
 rw [Oa]
def yQ(s:Bool)(y:Rat):Rat:=qg s y.num.natAbs y.den
theorem E8(y:Rat):yQ (decide (y.num<0)) y=y:=AO y
theorem Sr(y:Rat):yQ (!decide (y.num<0)) y= -y:=by
 have h: -y=mkRat (-y.num) y.den:=by rw[<-Rat.neg_mkRat,Rat.mkRat_self]
 by_cases h0:y.num.natAbs=0
 .have:=Ae h0
  subst this;rfl
 .rw[h];unfold yQ qg sgI
  congr 1
  by_cases hn:y.num<0
  .simp[hn];omega
  .simp[hn];omega
theorem L1(s:Bool)(x y:Rat):x+yQ s y=mkRat (sgI (decide (x.num<0)) (x.num.natAbs*y.den)+sgI s (y.num.natAbs*x.den)) (x.den*y.den):=by
 conv=>lhs;rw[<-AO x]
 exact Y0 _ _ _ _ x.den_pos y.den_pos
theorem Ct{s:Bool}{x y:Rat}(h:decide (x.num<0)=s):qg s (x.num.natAbs*y.den+y.num.natAbs*x.den) (x.den*y.den)=x+yQ s y:=by
 rw[L1,h,TK];rfl
theorem Cr{s:Bool}{x y:Rat}(h:decide (x.num<0)≠s)(hm:y.num.natAbs*x.den<=x.num.natAbs*y.den):qg (decide (x.num<0)) (x.num.natAbs*y.den-y.num.natAbs*x.den) (x.den*y.den)=x+yQ s y:=by
 rw[L1,q30 h hm];rfl
theorem Cs{s:Bool}{x y:Rat}(h:decide (x.num<0)≠s)(hm:x.num.natAbs*y.den<=y.num.natAbs*x.den):qg s (y.num.natAbs*x.den-x.num.natAbs*y.den) (x.den*y.den)=x+yQ s y:=by
 rw[L1,q31 h hm];rfl
theorem Fr(s:Bool)(n d e:Nat)(he:0<e):qg s (n*e) (d*e)=qg s n d:=by
 rcases q69 d with h|h
 .subst h;rw[q6B,E3,E3]
 .unfold qg
  rw[Rat.mkRat_eq_iff (Nat.ne_of_gt (q6s h he)) (Nat.ne_of_gt h)];have e1:sgI s (n*e)=sgI s n*(e:Int):=by unfold sgI;cases s<;>simp[q5p,Int.neg_mul]
  rw[e1,q5p,Int.mul_assoc,Int.mul_comm (e:Int)]
theorem Vk{s:Bool}{x y:Rat}(hd:x.den=y.den)(h:decide (x.num<0)=s):qg s (x.num.natAbs+y.num.natAbs) x.den=x+yQ s y:=by
 rw[<-Ct h,<-hd,<-q63,Fr _ _ _ _ x.den_pos]
theorem Vi{s:Bool}{x y:Rat}(hd:x.den=y.den)(h:decide (x.num<0)≠s)(hm:y.num.natAbs<=x.num.natAbs):qg (decide (x.num<0)) (x.num.natAbs-y.num.natAbs) x.den=x+yQ s y:=by
 rw[<-Cr h (by rw[hd];exact q6r _ hm),<-hd,<-Nat.sub_mul,Fr _ _ _ _ x.den_pos]
theorem Vj{s:Bool}{x y:Rat}(hd:x.den=y.den)(h:decide (x.num<0)≠s)(hm:x.num.natAbs<=y.num.natAbs):qg s (y.num.natAbs-x.num.natAbs) x.den=x+yQ s y:=by
 rw[<-Cs h (by rw[hd];exact q6r _ hm),<-hd,<-Nat.sub_mul,Fr _ _ _ _ x.den_pos]
theorem wI{d e:Nat}(hd:d≠0)(he:e≠0)(h:denL d=denL e):d=e:=by
 by_cases h1:d=1
 .subst h1
  have:(denL e).length=0:=by rw[<-h];rfl
  exact(CC he this).symm
 .by_cases h2:e=1
  .subst h2
   exact CC hd (by rw[h];rfl)
  .unfold denL at h
   rw[if_neg h1,if_neg h2]at h;have:=congrArg qa h
   rwa [qN,qN]at this
theorem EC{x y a b:Nat}(h:qM x a)(k:le2 y b):qM (x*y) (a+b):=by
 unfold qM le2 at*;rw[q6u];exact q6f (q6q _ k) (Nat.mul_lt_mul_of_pos_right h (q6w (by decide)))
theorem IT{s:Bool}{x y:Rat}{b c:Bd}(hx:Bnd .rat b x)(hy:Bnd .rat c y):Bnd .rat (.n (b.nb+c.nb+1)) (x+yQ s y):=by
 have h1:=EC hx.rat.1 hy.rat.2;have h2:=EC hy.rat.1 hx.rat.2;have h3:=NK hx.rat.2 hy.rat.2
 have h4:qM (x.num.natAbs*y.den+y.num.natAbs*x.den) (b.nb+c.nb+1):=by
  rw[Nat.add_comm c.nb]at h2;have:=G6 h1 h2
  rwa [Nat.max_self]at this
 have hp:=q6s x.den_pos y.den_pos;have h5:le2 (x.den*y.den) (b.nb+c.nb+1):=Bo (Nat.le_succ _) h3;by_cases e:decide (x.num<0)=s
 .rw[<-Ct e];exact qT h4 h5 hp
 .rcases Nat.le_total (y.num.natAbs*x.den) (x.num.natAbs*y.den)with hm|hm
  .rw[<-Cr e hm];exact qT (CH h4 (by omega)) h5 hp
  .rw[<-Cs e hm];exact qT (CH h4 (by omega)) h5 hp
def cy(a b:Nat):Nat:=(a+b)/18446744073709551616
theorem q3H{a b:Nat}(h:a<=4294967295*4294967295)(k:b<=4294967295*4294967295):cy a b<=1:=by unfold cy;omega
theorem q11{a b:Nat}(h:cy a b=0):(a+b)%18446744073709551616=a+b:=by unfold cy at h;omega
theorem GJ{x y:Rat}{b c:Bd}(hx:Bnd .rat b x)(hy:Bnd .rat c y):Bnd .rat (.n (b.nb+c.nb+1)) (x+y):=by
 have:=IT (s:=decide (y.num<0)) hx hy
 rwa [E8]at this
theorem CR{x y:Rat}{b c:Bd}(hx:Bnd .rat b x)(hy:Bnd .rat c y):Bnd .rat (.n (b.nb+c.nb+1)) (x-y):=by
 have:=IT (s:=!decide (y.num<0)) hx hy
 rwa [Sr,<-Rat.sub_eq_add_neg]at this
theorem Cm{x y:Rat}{b c:Bd}(hx:Bnd .rat b x)(hy:Bnd .rat c y):Bnd .rat (.n (b.nb+c.nb)) (x/y):=by
 by_cases h:y.num.natAbs=0
 .rw[Ae h,Rat.div_def,Rat.inv_zero,Rat.mul_zero]
  exact⟨q6w (by decide),q6w (by decide)⟩
 .rw[<-Fi h]
  have h2:=EC hy.rat.1 hx.rat.2;rw[Nat.add_comm,q6o]at h2;exact qT (EC hx.rat.1 hy.rat.2) (j0 h2) (q6s x.den_pos (by omega))
theorem UY{x y:Rat}(h:y.num.natAbs=0):0=x/y:=by rw[Ae h,Rat.div_def,Rat.inv_zero,Rat.mul_zero]
def quoC(y:Rat):Int:=if y.num.natAbs=0 then 3 else 0
theorem RF(y:Rat):(quoC y).natAbs<=3:=by unfold quoC;split<;>decide
theorem My{y:Rat}:jf y=0↔y.num.natAbs=0:=by
 unfold jf;split
 .simp_all
 .split<;>simp_all
theorem RK{x:Rat}{b:Bd}(h:Bnd .rat b x):Int.natAbs (max ((bl x.num.natAbs:Nat):Int) ((bl x.den:Nat):Int))<=b.nb+(b.nb+1):=by
 have h1:=C1 h.rat.1;have h2:=C1 (An h.rat.2);omega
def qL(x y:Rat):Int:=if x<y then-1 else if x=y then 0 else 1
theorem LD(x y:Rat):(qL x y).natAbs<=1:=by
 unfold qL;split
 .decide
 .split<;>decide
def cmpL(x y:Rat):Int:=j3 (x.num.natAbs*y.den) (y.num.natAbs*x.den)
theorem Iv{x y:Rat}:x=y↔x.num*y.den=y.num*x.den:=by
 constructor
 .intro h;subst h;rfl
 .intro h
  rw[<-Rat.mkRat_self x,<-Rat.mkRat_self y];exact(Rat.mkRat_eq_iff x.den_nz y.den_nz).2 h
theorem FN(x y:Rat):qL x y=if x.num*y.den<y.num*x.den then-1 else if x.num*y.den=y.num*x.den then 0 else 1:=by
 unfold qL;by_cases h:x<y
 .rw[if_pos h,if_pos ((Rat.lt_iff x y).1 h)]
 .rw[if_neg h,if_neg (mt (Rat.lt_iff x y).2 h)]
  by_cases e:x=y
  .rw[if_pos e,if_pos (Iv.1 e)]
  .rw[if_neg e,if_neg (mt Iv.2 e)]
theorem RY(z:Int){d:Nat}(hd:0<d):(z<0->z*(d:Int)<0)/\(z=0->z*(d:Int)=0)/\(0<z->0<z*(d:Int)):=
 ⟨λh=>Int.mul_neg_of_neg_of_pos h (by omega),λh=>by rw[h,Int.zero_mul],λh=>Int.mul_pos h (by omega)⟩
theorem AY(x:Rat):(x.num<0/\jf x= -1)\/(x.num=0/\jf x=0)\/(0<x.num/\jf x=1):=by
 unfold jf;by_cases h:x.num.natAbs=0
 .rw[if_pos h];omega
 .rw[if_neg h]
  by_cases h2:x.num<0
  .rw[if_pos h2];omega
  .rw[if_neg h2];omega
theorem FP{x y:Rat}(h:jf x≠jf y):(jf x<jf y->qL x y= -1)/\(¬jf x<jf y->qL x y=1):=by
 have h1:=RY x.num y.den_pos;have h2:=RY y.num x.den_pos;have c1:=AY x;have c2:=AY y;rw[FN];generalize x.num*(y.den:Int)=A at*;generalize y.num*(x.den:Int)=B at*;refine⟨λhl=>?_,λhl=>?_⟩
 .rw[if_pos (by omega)]
 .rw[if_neg (by omega),if_neg (by omega)]
theorem Nx{x y:Rat}(hs:jf x=jf y)(h: ¬x.num<0):qL x y=cmpL x y:=by
 have c1:=AY x;have c2:=AY y;have e1:x.num*(y.den:Int)=((x.num.natAbs*y.den:Nat):Int):=by rw[q5p,Int.natAbs_of_nonneg (by omega)]
 have e2:y.num*(x.den:Int)=((y.num.natAbs*x.den:Nat):Int):=by rw[q5p,Int.natAbs_of_nonneg (by omega)]
 rw[FN,e1,e2];unfold cmpL j3;generalize x.num.natAbs*y.den=A;generalize y.num.natAbs*x.den=B;by_cases g:A<B
 .rw[if_pos (by omega),if_pos g]
 .rw[if_neg (by omega),if_neg g]
  by_cases g2:A=B
  .rw[if_pos (by omega),if_pos g2]
  .rw[if_neg (by omega),if_neg g2]
theorem Nw{x y:Rat}(hs:jf x=jf y)(h:x.num<0):qL x y= -cmpL x y:=by
 have c1:=AY x;have c2:=AY y
 have e1:x.num*(y.den:Int)= -((x.num.natAbs*y.den:Nat):Int):=by
  rw[q5p,<-Int.neg_mul];congr 1;omega
 have e2:y.num*(x.den:Int)= -((y.num.natAbs*x.den:Nat):Int):=by
  rw[q5p,<-Int.neg_mul];congr 1;omega
 rw[FN,e1,e2];unfold cmpL j3;generalize x.num.natAbs*y.den=A;generalize y.num.natAbs*x.den=B;by_cases g:A<B
 .rw[if_neg (by omega),if_neg (by omega),if_pos g];rfl
 .rw[if_neg g]
  by_cases g2:A=B
  .rw[if_neg (by omega),if_pos (by omega),if_pos g2];rfl
  .rw[if_pos (by omega),if_neg g2]
theorem SC{a b c:Nat}(h:0<c):j3 (a*c) (b*c)=j3 a b:=by
 unfold j3;simp only[Nat.mul_lt_mul_right h,Nat.mul_left_inj (Nat.ne_of_gt h)]
theorem Ej{x y:Rat}(h:x.den=y.den):j3 x.num.natAbs y.num.natAbs=cmpL x y:=by
 unfold cmpL;rw[<-h,SC x.den_pos]
theorem Qg{x y:Rat}(hx:pn x=x.num.natAbs/\pd x=x.den/\0<pd x)(hy:pn y=y.num.natAbs/\pd y=y.den/\0<pd y):cmpL x y=j3 (pn x*pd y) (pn y*pd x):=by
 unfold cmpL;rw[hx.1,hx.2.1,hy.1,hy.2.1]
theorem R6{a b:Nat}(h:limbs a=limbs b):a=b:=by
 have:=congrArg qa h
 rwa [qN,qN]at this
theorem EK(x y:Rat):x=y↔decide (x.num<0)=decide (y.num<0)/\limbs x.num.natAbs=limbs y.num.natAbs/\denL x.den=denL y.den:=by
 constructor
 .intro h;subst h;exact⟨rfl,rfl,rfl⟩
 .rintro⟨h1,h2,h3⟩
  rw[<-AO x,<-AO y,h1,R6 h2,wI x.den_nz y.den_nz h3]
theorem q4Z{x y:Rat}(h: ¬decide (x.num<0)=decide (y.num<0)):false=decide (x=y):=(decide_eq_false (λe=>h ((EK x y).1 e).1)).symm
theorem q50{x y:Rat}(h: ¬decide (limbs x.num.natAbs=limbs y.num.natAbs)=true):false=decide (x=y):=(decide_eq_false (λe=>h (decide_eq_true ((EK x y).1 e).2.1))).symm
theorem q51{x y:Rat}(h1:decide (x.num<0)=decide (y.num<0))(h2:decide (limbs x.num.natAbs=limbs y.num.natAbs)=true):decide (denL x.den=denL y.den)=decide (x=y):=by
 rw[decide_eq_decide,EK];exact⟨λh=>⟨h1,of_decide_eq_true h2,h⟩,λh=>h.2.2⟩
def minQ(x y:Rat):Rat:=if qL y x<0 then y else x
def maxQ(x y:Rat):Rat:=if 0<qL y x then y else x
theorem M6{x y:Rat}{b c:Bd}(hx:Bnd .rat b x)(hy:Bnd .rat c y):Bnd .rat (.n (max b.nb c.nb)) (minQ x y):=by
 unfold minQ;split
 .exact⟨qd (q6R _ _) hy.rat.1,Bo (q6R _ _) hy.rat.2⟩
 .exact⟨qd (q6Q _ _) hx.rat.1,Bo (q6Q _ _) hx.rat.2⟩
theorem CJ{x y:Rat}{b c:Bd}(hx:Bnd .rat b x)(hy:Bnd .rat c y):Bnd .rat (.n (max b.nb c.nb)) (maxQ x y):=by
 unfold maxQ;split
 .exact⟨qd (q6R _ _) hy.rat.1,Bo (q6R _ _) hy.rat.2⟩
 .exact⟨qd (q6Q _ _) hx.rat.1,Bo (q6Q _ _) hx.rat.2⟩
theorem SubI.lt{x y i c s:Nat}{out:List Nat}(h:SubI x y i c out)(hi:i<(limbs x).length)(hs:s=c+(limbs y).getD i 0)(hl:(limbs x).getD i 0<s):
  SubI x y (i+1) 1 (out.set i (((limbs x).getD i 0+4294967296-s)%4294967296)):=by
 have h1:=qc x i;have h2:=qc y i;have hc:=h.hc;have:=h.step hi hs;have e:dif ((limbs x).getD i 0) s=(limbs x).getD i 0+18446744073709551616-s:=by rw[DL];omega
 rw[e,show((limbs x).getD i 0+18446744073709551616-s)/9223372036854775808=1 by omega,show((limbs x).getD i 0+18446744073709551616-s)%4294967296=((limbs x).getD i 0+4294967296-s)%4294967296 by omega]at this;exact this
theorem SubI.ge{x y i c s:Nat}{out:List Nat}(h:SubI x y i c out)(hi:i<(limbs x).length)(hs:s=c+(limbs y).getD i 0)(hl: ¬(limbs x).getD i 0<s):
  SubI x y (i+1) 0 (out.set i ((limbs x).getD i 0-s)):=by
 have h1:=qc x i;have:=h.step hi hs;have e:dif ((limbs x).getD i 0) s=(limbs x).getD i 0-s:=by rw[DL];omega
 rw[e,show((limbs x).getD i 0-s)/9223372036854775808=0 by omega,show((limbs x).getD i 0-s)%4294967296=(limbs x).getD i 0-s by omega]at this;exact this
def xw(x:Nat):Nat:=if(limbs x).length<=2 then x else 0
def xk(x:Nat):Bool:=decide ((limbs x).length<=2)
theorem q5j(x:Nat):xw x<=18446744073709551615:=by
 unfold xw;split
 .exact q6c (M9 (by assumption))
 .omega
theorem xw_y{x:Nat}(h:(limbs x).length<=2):xw x=x/\xk x=true:=⟨if_pos h,decide_eq_true h⟩
theorem xw_n{x:Nat}(h: ¬(limbs x).length<=2):xw x=0/\xk x=false:=⟨if_neg h,decide_eq_false h⟩
theorem S8{x:Nat}(h:(limbs x).length=2):(limbs x).getD 0 0+(limbs x).getD 1 0*2^32=x:=by
 have h1:=wO (x:=x) (by omega);rw[h]at h1;have h2:=j6 (limbs x) 0;simp only[Nat.reduceSub,q6z,List.take_zero,qa,Nat.pow_zero,Nat.pow_one,Nat.one_mul]at h1 h2;omega
theorem Vt{v:Nat}(h:v≠0):bl v=bl (v/2^1)+1:=by
 by_cases e:v=1
 .subst e;decide
 .exact Cv (k:=1) (show 2^1<=v by omega)
theorem Fy(l:List Nat)(u:Nat):qa (l++[u])=qa l+4294967296^l.length*u:=by rw[AB];simp[qa]
theorem EM: ∀(n:Nat),qa (List.replicate n 0)=0
 |0=>rfl
 |n+1=>by rw[List.replicate_succ,qa,EM n]
theorem Jw{l:List Nat}{u:Nat}(h: ∀v∈l,v<4294967296)(hu:u<4294967296): ∀v∈l++[u],v<4294967296:=by
 intro v hv;rcases q5N.1 hv with hv|hv
 .exact h v hv
 .rw[q5U.1 hv];exact hu
theorem M3{l:List Nat}(hu: ∀v∈l,v<4294967296)(h:(limbs (qa l)).length=l.length):l=limbs (qa l):=by
 have h1:=In hu;have h2:=In (jr (qa l));rw[qN,h]at h2;exact h1.trans h2.symm
theorem q4G{x n:Nat}(h:n<(limbs x).length):4294967296^n<=x:=by
 apply q6U;intro hl;have:=G9 (n:=x) (k:=n) hl;unfold nl at this;omega
structure AddX (x y i c:Nat) (out:List Nat):Prop where
 hl:out.length=i
 hu: ∀u∈out,u<4294967296
 hc:c<=1
 hv:qa out+4294967296^i*c=qa ((limbs x).take i)+qa ((limbs y).take i)
 hi:i<=max (limbs x).length (limbs y).length+1
 hm:i=max (limbs x).length (limbs y).length+1->c=0/\4294967296^(max (limbs x).length (limbs y).length)<=x+y
theorem AddX.start(x y:Nat):AddX x y 0 0 []:=⟨rfl,λu hu=>by simp at hu,by omega,by simp[qa],by omega,λh=>by omega⟩
theorem AddX.le{x y i c:Nat}{out:List Nat}(h:AddX x y i c out)(hc:i<(limbs x).length\/i<(limbs y).length\/c≠0):i<=max (limbs x).length (limbs y).length:=by
 have:=h.hi;rcases q6h (max (limbs x).length (limbs y).length) i with e|e
 .have:=h.hm (by omega);omega
 .exact e
theorem AddX.step{x y i c s:Nat}{out:List Nat}(h:AddX x y i c out)(hc:i<(limbs x).length\/i<(limbs y).length\/c≠0)(hs:s=c+(limbs x).getD i 0+(limbs y).getD i 0):
  AddX x y (i+1) (s/2^32) (out++[s%4294967296]):=by
 have hx:=qc x i;have hy:=qc y i;have hc1:=h.hc;have hle:=h.le hc;refine⟨by simp[h.hl],Jw h.hu (q6k _ (by omega)),by omega,?_,by omega,?_⟩
 .rw[Fy,h.hl,j6,j6,q6x]
  have e:4294967296^i*(s%4294967296)+4294967296^i*4294967296*(s/2^32)=4294967296^i*s:=by
   rw[q6n,<-q6m,show s/2^32=s/4294967296 from rfl,Nat.mod_add_div]
  have e2:4294967296^i*s=4294967296^i*c+4294967296^i*(limbs x).getD i 0+4294967296^i*(limbs y).getD i 0:=by rw[hs,q6m,q6m]
  have:=h.hv;omega
 .intro e
  have hx0:(limbs x).getD i 0=0:=qS (by omega);have hy0:(limbs y).getD i 0=0:=qS (by omega);have hv:=h.hv;have hc0:c=1:=by omega
  rw[vE (by omega),vE (by omega),qN,qN,hc0,show i=max (limbs x).length (limbs y).length by omega]at hv;refine⟨by omega,by omega⟩
theorem AddX.step2{x y i c s u:Nat}{out:List Nat}(h:AddX x y i c out)(hc:i<(limbs x).length\/i<(limbs y).length\/c≠0)(hs:s=c+(limbs x).getD i 0+(limbs y).getD i 0)(hu:u=s%4294967296):
  AddX x y (i+1) (s/2^32) (out++[u]):=by subst hu;exact h.step hc hs
theorem AddX.fin{x y i c:Nat}{out:List Nat}(h:AddX x y i c out)(h1: ¬i<(limbs x).length)(h2: ¬i<(limbs y).length)(h0:c=0):out=limbs (x+y):=by
 have hv:=h.hv;rw[vE (by omega),vE (by omega),qN,qN,h0,Nat.mul_zero,q64]at hv;rw[<-hv];refine M3 h.hu ?_;have l1:=Ji h.hu;have l2:(limbs x).length<=(limbs (qa out)).length:=zU (by omega);have l3:(limbs y).length<=(limbs (qa out)).length:=zU (by omega);have hl:=h.hl;have hi:=h.hi;rcases q6h (max (limbs x).length (limbs y).length) i with e|e
 .have h9:=(h.hm (by omega)).2
  have:max (limbs x).length (limbs y).length<(limbs (qa out)).length:=by
   apply Nat.lt_of_not_le;intro hl;have h3:=vH (limbs (qa out)) (jr _);rw[qN]at h3;have h4:=q6v (show 0<4294967296 by omega) hl;omega
  omega
 .omega
theorem Rl{a b:List Nat}(hb:b≠[])(h:Aq b=true):Aq (a++b)=true:=by
 induction a with
 |nil=>exact h
 |cons v r ih=>rw[List.cons_append,EG (by simp[hb])];exact ih
theorem GI{x k:Nat}(hx:x≠0):List.replicate k 0++limbs x=limbs (x*4294967296^k):=by
 have hne:limbs x≠[]:=by rw[zz hx];simp
 have hu: ∀u∈List.replicate k 0++limbs x,u<4294967296:=by
  intro u hu;rcases q5N.1 hu with hu|hu
  .exact rep_lt k u hu
  .exact jr x u hu
 have:=Ez hu (Rl hne (P9 x));rw[AB,EM,qN,List.length_replicate,q6z,q6o]at this;exact this.symm
theorem K9(s:Nat):4294967296^(s/32)*2^(s%32)=2^s:=by
 rw[show(4294967296:Nat)=2^32 from rfl,<-Nat.pow_mul,<-q6u,Nat.div_add_mod]
structure UpX (x s i c:Nat) (out:List Nat):Prop where
 hl:out.length=s/32+i
 hu: ∀u∈out,u<4294967296
 hc:c<2^(s%32)
 hi:i<=(limbs x).length
 hv:qa out+4294967296^(s/32+i)*c=4294967296^(s/32)*(qa ((limbs x).take i)*2^(s%32))
theorem UpX.start(x s:Nat):UpX x s 0 0 (List.replicate (s/32) 0):=⟨by simp,rep_lt _,q6w (by omega),by omega,by simp[qa,EM]⟩
theorem UpX.step{x s i c d:Nat}{out:List Nat}(h:UpX x s i c out)(hi:i<(limbs x).length)(hd:d=c+(limbs x).getD i 0*2^(s%32)):UpX x s (i+1) (d/2^32) (out++[d%4294967296]):=by
 have hx:=qc x i;have hc:=h.hc;refine⟨by simp[h.hl];omega,Jw h.hu (q6k _ (by omega)),?_,by omega,?_⟩
 .rw[q66 (by omega)]
  have h1:(limbs x).getD i 0*2^(s%32)<=4294967295*2^(s%32):=q6r _ (by omega);omega
 .rw[Fy,h.hl,j6,<-q62,q6x]
  have e:4294967296^(s/32+i)*(d%4294967296)+4294967296^(s/32+i)*4294967296*(d/2^32)=4294967296^(s/32+i)*d:=by
   rw[q6n,<-q6m,show d/2^32=d/4294967296 from rfl,Nat.mod_add_div]
  have e2:4294967296^(s/32+i)*d=4294967296^(s/32+i)*c+4294967296^(s/32)*(4294967296^i*(limbs x).getD i 0*2^(s%32)):=by
   rw[hd,q6m,q6u];simp only[q6n]
  have:=h.hv;rw[q63,q6m];omega
theorem UpX.fin{x s i c:Nat}{out:List Nat}(h:UpX x s i c out)(hi: ¬i<(limbs x).length):qa (out++[c])=x*2^s/\ ∀u∈out++[c],u<4294967296:=by
 have hc:=h.hc;have h1:=q6v (show 0<2 by omega) (show s%32<=32 by omega);refine⟨?_,Jw h.hu (by omega)⟩;have hv:=h.hv;rw[vE (by omega),qN]at hv;rw[Fy,h.hl,hv,<-K9 s,Nat.mul_left_comm]
theorem q5h{x s i c:Nat}{out:List Nat}(h:UpX x s i c out):c+(limbs x).getD i 0*2^(s%32)<18446744073709551616:=K8 (qc x i) (by omega) h.hc
theorem El: ∀(k x:Nat),(limbs x).drop k=limbs (x/4294967296^k)
 |0,x=>by simp
 |k+1,x=>by
  by_cases e:x=0
  .subst e;simp[Ao]
  .rw[zz e,List.drop_succ_cons,El k,q6x,q6o,Nat.div_div_eq_div_mul]
structure DownX (w r i:Nat) (out:List Nat):Prop where
 hl:out.length=(limbs w).length
 hi:i<=(limbs w).length
 hu: ∀u∈out,u<4294967296
 hv:qa (out.take i)=w/2^r%4294967296^i
theorem DownX.start(w r:Nat):DownX w r 0 (List.replicate (limbs w).length 0):=⟨by simp,by omega,rep_lt _,by simp[qa,Nat.mod_one]⟩
theorem SE{m r:Nat}(hr:r<=32):m/2^r%4294967296=(m%18446744073709551616)/2^r%4294967296:=by
 have h1:(2:Nat)^r*2^(64-r)=18446744073709551616:=by rw[<-q6u,show r+(64-r)=64 by omega]
 have h2:(2:Nat)^(64-r)=4294967296*2^(32-r):=by rw[show(4294967296:Nat)=2^32 from rfl,<-q6u];congr 1;omega
 have h3:=Nat.div_add_mod m 18446744073709551616;generalize m%18446744073709551616=v at*;rw[<-h3,<-h1,q6n,Nat.mul_add_div (q6w (by omega)),h2,q6n,Nat.mul_add_mod]
theorem DownX.step{w r i v:Nat}{out:List Nat}(h:DownX w r i out)(hr:r<=32)(hi:i<(limbs w).length)(hv:v=(limbs w).getD i 0+(limbs w).getD (i+1) 0*4294967296):
  DownX w r (i+1) (out.set i (v/2^r%4294967296)):=by
 have hl:=h.hl;refine⟨by simp[hl],by omega,vF h.hu (q6k _ (by omega)),?_⟩;rw[zh (by omega),h.hv,Nat.mod_pow_succ]
 congr 2
 have e1:=AL (jr w) i;have e2:=AL (jr w) (i+1);rw[qN]at e1 e2;rw[q6x,<-Nat.div_div_eq_div_mul]at e2;rw[e1,e2]at hv;rw[Nat.div_div_eq_div_mul,q6o,<-Nat.div_div_eq_div_mul,@SE (w/4294967296^i) r hr]
 congr 2
 generalize w/4294967296^i=m at*;omega
theorem DownX.fin{w r i:Nat}{out:List Nat}(h:DownX w r i out)(hi: ¬i<(limbs w).length):qa out=w/2^r:=by
 have hv:=h.hv;have h1:=h.hi;have e:i=(limbs w).length:=by omega
 have hl:=h.hl;rw[vE (by omega)]at hv;rw[hv,q6j];have:=vH (limbs w) (jr w);rw[qN,<-e]at this;exact q6f (q65 _ _) this
theorem LK(x s:Nat):x/4294967296^(s/32)/2^(s%32)=x/2^s:=by rw[Nat.div_div_eq_div_mul,K9]
theorem Qq{x s:Nat}(h:(limbs x).length<=s/32):0=x/2^s:=by
 rw[<-LK,Nat.div_eq_of_lt (a:=x),Nat.zero_div];have h1:=vH (limbs x) (jr x);rw[qN]at h1;exact q6g h1 (q6v (by omega) h)
theorem Ki: ∀{ls:List Nat}{k d:Nat},k<ls.length->ls.getD k 0=0->qa (ls.set k d)=qa ls+4294967296^k*d
 |u::r,0,d,_,h=>by simp at h;subst h;simp[qa];omega
 |u::r,k+1,d,hk,h=>by
  simp only[List.getD_cons_succ]at h;simp only[q5H]at hk;rw[List.set_cons_succ,qa,qa,Ki (by omega) h,q6x,q6m,<-q6n,q6o 4294967296 (4294967296^k)];omega
structure DX (A V L:Nat) (z:Int) (q:List Nat) (r:Nat):Prop where
 hz: -1<=z
 hz1:z<L
 hl:q.length=L
 hu: ∀u∈q,u<4294967296
 hv:A=qa q*V+r
 hr:r<V*4294967296^(z+1).toNat
 h0: ∀j:Nat,(j:Int)<=z->q.getD j 0=0
theorem DX.start{A V L n:Nat}(hn0:0<n)(hn:n=(limbs V).length)(hn:n<=(limbs A).length)(hL:L=(limbs A).length-n+1):DX A V L (((limbs A).length:Int) -n) (List.replicate L 0) A:=by
 refine⟨by omega,by omega,by simp,rep_lt _,by rw[EM];omega,?_,λj _=>?_⟩
 .have h1:=vH (limbs A) (jr A)
  rw[qN]at h1;have h2:=q4G (x:=V) (n:=n-1) (by omega);have h3:(4294967296:Nat)^(limbs A).length=4294967296^(n-1)*4294967296^((limbs A).length-n+1):=by rw[<-q6u];congr 1;omega
  rw[show((((limbs A).length:Int) -n+1).toNat)=(limbs A).length-n+1 by omega];rw[h3]at h1;exact q6g h1 (q6r _ h2)
 .simp[q5y,List.getElem?_replicate];split<;>rfl
structure EX (V k r d p:Nat):Prop where
 hp:p=V*d*4294967296^k
 hd:r/(V*4294967296^k)<=d
 h1:d<=4294967295
theorem DX.est{A V L n k T:Nat}{z:Int}{q:List Nat}{r:Nat}(h:DX A V L z q r)(hz:0<=z)(hk:k=z.toNat)(hV:0<V)(hn0:0<n)(hn:n=(limbs V).length)
  (hT:T=(limbs r).getD (k+n) 0*4294967296+(limbs r).getD (k+n-1) 0):
  EX V k r (min (T/(limbs V).getD (n-1) 0) 4294967295) (V*min (T/(limbs V).getD (n-1) 0) 4294967295*4294967296^k):=by
 have hP:=q6s hV (q6w (n:=k) (show 0<4294967296 by omega));have hr:=h.hr;rw[show(z+1).toNat=k+1 by omega,q6x,<-q6n]at hr;have hq:r/(V*4294967296^k)<4294967296:=by rw[q66 hP,q6o];exact hr
 refine⟨rfl,Nat.le_min.2 ⟨?_,by omega⟩,Nat.min_le_right _ _⟩;have hv:=GW V (n-1) (by omega)
 have hvp:0<(limbs V).getD (n-1) 0:=by
  have:=wS (x:=V) (by omega);rw[<-hn]at this;omega
 rw[Nat.le_div_iff_mul_le hvp];have e1:=AL (jr r) (k+n);have e2:=AL (jr r) (k+n-1);rw[qN]at e1 e2;have hVl:=vH (limbs V) (jr V);rw[qN,<-hn]at hVl
 --the top of r
 have hT2:T=r/4294967296^(k+n-1):=by
  have hrl:r/4294967296^(k+n-1)<18446744073709551616:=by
   rw[q66 (q6w (by omega))]
   have e3:18446744073709551616*4294967296^(k+n-1)=4294967296^n*4294967296^k*4294967296:=by
    rw[<-q6u,show(18446744073709551616:Nat)=4294967296^2 from rfl,<-q6u,<-q6x];congr 1;omega
   rw[e3];refine q6g hr (q6r _ (q6r _ (q6b hVl)))
  have e4:r/4294967296^(k+n)=r/4294967296^(k+n-1)/4294967296:=by
   rw[Nat.div_div_eq_div_mul,<-q6x];congr 2;omega
  rw[e4]at e1;rw[hT,e1,e2];generalize r/4294967296^(k+n-1)=m at*;omega
 rw[hT2,Nat.le_div_iff_mul_le (q6w (by omega)),hv];have h5:V/4294967296^(n-1)*4294967296^(n-1)<=V:=Nat.div_mul_le_self _ _;have h6:r/(V*4294967296^k)*(V*4294967296^k)<=r:=Nat.div_mul_le_self _ _;have e5:(4294967296:Nat)^(k+n-1)=4294967296^(n-1)*4294967296^k:=by rw[<-q6u];congr 1;omega
 rw[e5,q6n,<-q6n (V/_)];exact q6e (q6q _ (q6r _ h5)) h6
theorem EX.gt{V k r d p:Nat}(h:EX V k r d p)(hV:0<V)(hc:r<p):1<=d/\V*4294967296^k<=p/\EX V k r (d-1) (p-V*4294967296^k):=by
 have hP:=q6s hV (q6w (n:=k) (show 0<4294967296 by omega));have h1:=h.h1;have hp:p=d*(V*4294967296^k):=by rw[h.hp,q6o V d,q6n]
 have hlt:r/(V*4294967296^k)<d:=by rw[q66 hP,<-hp];exact hc
 have hd1:1<=d:=q6f (q6A _) hlt;refine⟨hd1,?_,?_,Nat.le_sub_one_of_lt hlt,by omega⟩
 .rw[hp];exact Nat.le_mul_of_pos_left _ (by omega)
 .rw[q6o V (d-1),q6n,Nat.sub_mul,<-hp,Nat.one_mul]
theorem DX.next{A V L k d p:Nat}{z:Int}{q:List Nat}{r:Nat}(h:DX A V L z q r)(hz:0<=z)(hk:k=z.toNat)(hV:0<V)(e:EX V k r d p)(hc:p<=r):DX A V L (z-1) (q.set k d) (r-p):=by
 have hP:=q6s hV (q6w (n:=k) (show 0<4294967296 by omega));have hz1:=h.hz1;have hl:=h.hl;have h1:=e.h1;have hp:p=d*(V*4294967296^k):=by rw[e.hp,q6o V d,q6n]
 have hd:r<(d+1)*(V*4294967296^k):=by rw[<-q66 hP];exact Nat.lt_succ_of_le e.hd
 refine⟨by omega,by omega,by simp[hl],vF h.hu (by omega),?_,?_,λj hj=>?_⟩
 .rw[Ki (by omega) (h.h0 k (by omega)),q63,h.hv]
  rw[q6o (4294967296^k) d,q6n,q6o (4294967296^k) V,<-hp];omega
 .rw[show(z-1+1).toNat=k by omega]
  rw[q63,<-hp]at hd;omega
 .rw[Dy (by omega)];exact h.h0 j (by omega)
theorem DX.fin{x y s L:Nat}{z:Int}{q:List Nat}{r:Nat}(h:DX (x*2^s) (y*2^s) L z q r)(hy:0<y)(hz:z<0):qa q=x/y/\r/2^s=x%y:=by
 have hp:=q6w (n:=s) (show 0<2 by omega);have h1:=h.hz;have hr:=h.hr;have hv:=h.hv;rw[show(z+1).toNat=0 by omega,Nat.pow_zero,Nat.mul_one]at hr
 have e1:(x*2^s)/(y*2^s)=qa q:=by
  rw[hv,q6o (qa q),Nat.mul_add_div (q6s hy hp),Nat.div_eq_of_lt hr];rfl
 have e2:(x*2^s)%(y*2^s)=r:=by rw[hv,q6o (qa q),Nat.mul_add_mod,q6j hr]
 rw[Nat.mul_div_mul_right _ _ hp]at e1;rw[Nat.mul_mod_mul_right]at e2;exact⟨e1.symm,by rw[<-e2,Nat.mul_div_cancel _ hp]⟩
theorem K7{x k a c:Nat}(h:qM x a)(hk:k<=c):qM (x*4294967296^k) (a+32*c):=by
 unfold qM at*;rw[show(4294967296:Nat)=2^32 from rfl,<-Nat.pow_mul,q6u];exact q6g (Nat.mul_lt_mul_of_pos_right h (q6w (by omega))) (q6q _ (q6v (by omega) (by omega)))
theorem q20{x s a c:Nat}(h:qM x a)(hs:s<=c):qM (x*2^s) (a+c):=by
 unfold qM at*;rw[q6u];exact q6g (Nat.mul_lt_mul_of_pos_right h (q6w (by omega))) (q6q _ (q6v (by omega) hs))
theorem Jb{y:Nat}:qM (y/4294967296^((limbs y).length-1)) 32:=by
 unfold qM;rw[q66 (q6w (by omega)),show(2:Nat)^32=4294967296 from rfl,q6o,<-q6x];have h1:=vH (limbs y) (jr y);rw[qN]at h1;exact q6g h1 (q6v (by omega) (by omega))
theorem Ym{b:Nat}(h:b<4294967296):qU .or .u64 0 (b:Int) ((0+b:Nat):Int):=CY (a:=0) (b:=b) 0 32 rfl h (by omega)
def dm(d:Nat):Nat:=if d=1 then 0 else d
theorem IY(d:Nat):denL d=limbs (dm d):=by unfold denL dm;split<;>rfl
theorem Qp{d b:Nat}(h:le2 d b):qM (dm d) (b+1):=by
 unfold dm;split
 .exact q6w (by omega)
 .exact An h
theorem q14{d e:Nat}(hd:d≠0)(he:e≠0):j3 (dm d) (dm e)=0↔d=e:=by
 rw[DJ];unfold dm;split<;>split<;>omega
theorem ysame{x y:Rat}(h: ¬decide (x.num<0)=decide (y.num<0)\/ ¬j3 x.num.natAbs y.num.natAbs=0\/ ¬j3 (dm x.den) (dm y.den)=0):false=decide (x=y):=by
 symm;apply decide_eq_false
 intro e;subst e
 rcases h with h|h|h
 .exact h rfl
 .exact h (DJ.2 rfl)
 .exact h (DJ.2 rfl)
theorem q3l{x y:Rat}(h1:decide (x.num<0)=decide (y.num<0))(h2:j3 x.num.natAbs y.num.natAbs=0):decide (j3 (dm x.den) (dm y.den)=0)=decide (x=y):=by
 have e:j3 (dm x.den) (dm y.den)=0↔x=y:=by
  rw[q14 x.den_nz y.den_nz,EK x y];constructor
  .intro h;exact⟨h1,by rw[DJ.1 h2],by rw[h]⟩
  .rintro⟨_,_,h⟩;exact wI x.den_nz y.den_nz h
 rw[decide_eq_decide];exact e
theorem Jh(x:Rat):(-x).num.natAbs=x.num.natAbs:=by rw[Rat.neg_num,Int.natAbs_neg]
theorem DR{x:Rat}{b:Bd}(h:Bnd .rat b x):Bnd .rat (.n b.nb) (-x):=by
 have h1:=h.rat;exact⟨by rw[Jh];exact h1.1,by rw[Rat.neg_den];exact h1.2⟩
theorem q27{x:Rat}(h: ¬x.num<0):decide (0<(limbs x.num.natAbs).length)=decide ((-x).num<0):=by
 rw[decide_eq_decide,Rat.neg_num];have:= @nl0 x.num.natAbs;omega
theorem q28{x:Rat}(h:x.num<0):false=decide ((-x).num<0):=by
 symm;apply decide_eq_false;rw[Rat.neg_num];omega
theorem Cj(v:Int):((v:Rat)).num=v:=Rat.num_intCast v
theorem G2(v:Int):((v:Rat)).den=1:=Rat.den_intCast v
def mkC'(d:Int):Int:=if d=0 then 3 else 0
theorem UD(d:Int):(mkC' d).natAbs<=3:=by unfold mkC';split<;>decide
theorem Jc(n d:Int):qg (decide (decide (n<0)≠decide (d<0))) n.natAbs d.natAbs=(n:Rat)/(d:Rat):=by
 by_cases h:d=0
 .subst h;simp[E3,Rat.div_def]
 .have:=Fi (x:=(n:Rat)) (y:=(d:Rat)) (by rw[Cj];omega)
  rw[Cj,Cj,G2,G2,Nat.mul_one,Nat.one_mul]at this;exact this
theorem CI{n d:Int}{b c:Nat}(hn:n.natAbs<=b)(hd:d.natAbs<=c):Bnd .rat (.n (max (Nat.log2 b+1) (Nat.log2 c+1))) ((n:Rat)/(d:Rat)):=by
 rw[<-Jc];exact Hg (qd (q6Q _ _) (Ap hn)) (qd (q6R _ _) (Ap hd))
def Bd.mx:Bd->Nat
 | .u=>0
 | .n b=>b
 | .s _ e=>e.mx
 | .p a b=>max a.mx b.mx
abbrev V3:Type:=Rat×Rat×Rat
abbrev qV:Ty:= .pr .rat (.pr .rat .rat)
abbrev bV3(m:Nat):Bd:= .p (.n m) (.p (.n m) (.n m))
theorem jL{b:Bd}{x:Rat}{m:Nat}(h:Bnd .rat b x)(hm:b.nb<=m):Bnd .rat (.n m) x:=by
 have h:=h.rat;exact⟨qd hm h.1,q6e h.2 (q6v (by omega) hm)⟩
theorem Bd.nb_mx(b:Bd):b.nb<=b.mx:=by cases b<;>simp[Bd.nb,Bd.mx]
theorem Bd.l_mx(b:Bd):b.l.mx<=b.mx:=by cases b<;>simp[Bd.l,Bd.mx]<;>omega
theorem Bd.r_mx(b:Bd):b.r.mx<=b.mx:=by cases b<;>simp[Bd.r,Bd.mx]<;>omega
theorem Bnd.ratM{b:Bd}{x:Rat}(h:Bnd .rat b x):Bnd .rat (.n b.mx) x:=jL h b.nb_mx
theorem Bnd.v3{b:Bd}{x:V3}(h:Bnd qV b x):Bnd .rat (.n b.mx) x.1/\Bnd .rat (.n b.mx) x.2.1/\Bnd .rat (.n b.mx) x.2.2:=by
 have h1:=h.pr;have h2:=h1.2.pr;have:=b.l_mx;have:=b.r_mx;have:=b.r.l_mx;have:=b.r.r_mx
 exact⟨jL h1.1 (q6e (Bd.nb_mx _) (by omega)),jL h2.1 (q6e (Bd.nb_mx _) (by omega)),jL h2.2 (q6e (Bd.nb_mx _) (by omega))⟩
theorem Bb{m:Nat}{x:V3}(h:Bnd .rat (.n m) x.1/\Bnd .rat (.n m) x.2.1/\Bnd .rat (.n m) x.2.2):(WV.c (.agg [.dt qV (bV3 m) x])).ok:=qB h
def addV(p q:V3):V3:=(p.1+q.1,p.2.1+q.2.1,p.2.2+q.2.2)
def subV(p q:V3):V3:=(p.1-q.1,p.2.1-q.2.1,p.2.2-q.2.2)
def BV(r:Rat)(p:V3):V3:=(r*p.1,r*p.2.1,r*p.2.2)
def dotQ(p q:V3):Rat:=p.1*q.1+p.2.1*q.2.1+p.2.2*q.2.2
theorem za{x y:Rat}{a b:Nat}(hx:Bnd .rat (.n a) x)(hy:Bnd .rat (.n b) y):Bnd .rat (.n (a+b)) (x*y):=DA hx hy
theorem AD{x y:Rat}{a b:Nat}(hx:Bnd .rat (.n a) x)(hy:Bnd .rat (.n b) y):Bnd .rat (.n (a+b+1)) (x+y):=GJ hx hy
theorem A8{x y:Rat}{a b:Nat}(hx:Bnd .rat (.n a) x)(hy:Bnd .rat (.n b) y):Bnd .rat (.n (a+b+1)) (x-y):=CR hx hy
theorem L0{b c:Bd}{p q:V3}(hp:Bnd qV b p)(hq:Bnd qV c q):Bnd qV (bV3 (b.mx+c.mx+1)) (addV p q):=
 ⟨AD hp.v3.1 hq.v3.1,AD hp.v3.2.1 hq.v3.2.1,AD hp.v3.2.2 hq.v3.2.2⟩
theorem Fu{b c:Bd}{p q:V3}(hp:Bnd qV b p)(hq:Bnd qV c q):Bnd qV (bV3 (b.mx+c.mx+1)) (subV p q):=
 ⟨A8 hp.v3.1 hq.v3.1,A8 hp.v3.2.1 hq.v3.2.1,A8 hp.v3.2.2 hq.v3.2.2⟩
theorem TI{b c:Bd}{r:Rat}{q:V3}(hp:Bnd .rat b r)(hq:Bnd qV c q):Bnd qV (bV3 (b.mx+c.mx)) (BV r q):=
 ⟨za hp.ratM hq.v3.1,za hp.ratM hq.v3.2.1,za hp.ratM hq.v3.2.2⟩
theorem qQ{x:Rat}{a b:Nat}(h:Bnd .rat (.n a) x)(hm:a<=b):Bnd .rat (.n b) x:=jL h hm
theorem DM{b c:Bd}{p q:V3}(hp:Bnd qV b p)(hq:Bnd qV c q):Bnd .rat (.n (3*(b.mx+c.mx)+2)) (dotQ p q):=
 qQ (AD (AD (za hp.v3.1 hq.v3.1) (za hp.v3.2.1 hq.v3.2.1)) (za hp.v3.2.2 hq.v3.2.2)) (by omega)
theorem Sb{p q:V3}:p=q↔p.1=q.1/\p.2.1=q.2.1/\p.2.2=q.2.2:=by
 obtain⟨a,b,c⟩:=p;obtain⟨d,e,f⟩:=q;simp
theorem IM{p q:V3}(h: ¬p.1=q.1\/ ¬p.2.1=q.2.1\/ ¬p.2.2=q.2.2):false=decide (p=q):=by
 symm;apply decide_eq_false;intro e;subst e;simp at h
theorem q3h{p q:V3}(h1:p.1=q.1)(h2:p.2.1=q.2.1)(h3:p.2.2=q.2.2):true=decide (p=q):=(decide_eq_true (Sb.2 ⟨h1,h2,h3⟩)).symm
theorem nd{p:Prop}[Decidable p](h:(!decide p)=true): ¬p:=by simpa using h
theorem nd'{p:Prop}[Decidable p](h: ¬(!decide p)=true):p:=by simpa using h
theorem yd{p:Prop}[Decidable p](h:decide p=true):p:=of_decide_eq_true h
theorem yd'{p:Prop}[Decidable p](h: ¬decide p=true): ¬p:=λe=>h (decide_eq_true e)
theorem z6{α:Type}{l:List α}{d:α}{i:Nat}(h:i<l.length):l.getD i d=l[i]:=by simp[q5y,h]
theorem wn{α:Type}{l:List α}{d:α}{i:Nat}(h:i<l.length):l.take (i+1)=l.take i++[l.getD i d]:=by
 rw[z6 h,q60 h]
theorem Mw{α:Type}{l:List α}{v:α}{i:Nat}(h:i<l.length):(l.set i v).take (i+1)=l.take i++[v]:=by
 rw[q60 (by simpa using h),List.getElem_set_self]
 congr 1
 rw[List.take_set,List.set_eq_of_length_le (by simp;omega)]
structure Cpy {α:Type} (l out:List α) (i:Nat):Prop where
 hl:out.length=l.length
 hi:i<=l.length
 ht:out.take i=l.take i
theorem Cpy.start{α:Type}{l:List α}(d:α):Cpy l (List.replicate l.length d) 0:=⟨by simp,by omega,by simp⟩
theorem Cpy.step{α:Type}{l out:List α}{i:Nat}(h:Cpy l out i)(d:α)(hi:i<l.length):Cpy l (out.set i (l.getD i d)) (i+1):=
 ⟨by simp[h.hl],by omega,by rw[Mw (by rw[h.hl];exact hi),wn hi,h.ht]⟩
theorem Cpy.fin{α:Type}{l out:List α}{i:Nat}(h:Cpy l out i)(hi: ¬i<l.length):out=l:=by
 have h1:=h.hl;have h2:=h.hi;have:=h.ht
 rwa [q5Z (by omega),q5Z (by omega)]at this
abbrev Curv:Type:=Int×List Rat×List ((Rat×Rat×Rat)×Rat)
def mir1(kk:List Rat)(y:Rat):Rat:=kk.getD 0 0+kk.getD (kk.length-1) 0-y
def vo(kk:List Rat):List Rat:=kk.reverse.map λy=>mir1 kk y
theorem mx_e(b:Bd):b.e.mx<=b.mx:=by cases b<;>simp[Bd.e,Bd.mx]
theorem QI{b:Bd}{kk:List Rat}(h: ∀x∈kk,Bnd .rat b x)(i:Nat)(hi:i<kk.length):Bnd .rat b (kk.getD i 0):=by
 rw[q5y,q5C hi];exact h _ (q6M hi)
theorem NR{m:Nat}{kk:List Rat}{y:Rat}(h: ∀x∈kk,Bnd .rat (.n m) x)(hy:y∈kk):Bnd .rat (.n (4*m+4)) (mir1 kk y):=by
 have h0:0<kk.length:=List.length_pos_of_mem hy;refine jL (A8 (AD (QI h 0 h0) (QI h (kk.length-1) (by omega))) (h y hy)) ?_;show m+m+1+m+1<=4*m+4;omega
theorem q23{m n k:Nat}{kk:List Rat}{y:Rat}(h:Bnds [.sl .rat] [.s n (.n m)] kk)(hy:y∈kk)(e:4*m+4=k):Bnd .rat (.n k) (mir1 kk y):=by subst e;exact NR h.2 hy
theorem M7{b:Bd}{kk:List Rat}(h:Bnd (.sl .rat) b kk):Bnd (.sl .rat) (.s b.len (.n (4*b.mx+4))) (vo kk):=by
 have h1:=h.sl;have hm: ∀x∈kk,Bnd .rat (.n b.mx) x:=λx hx=>jL (h1.2 x hx) (q6e (Bd.nb_mx _) (mx_e b))
 refine⟨by simp[vo];exact h1.1,λy hy=>?_⟩;obtain⟨z,hz,rfl⟩:=q6T.1 hy;exact NR hm (List.mem_reverse.1 hz)
theorem Jf{b:Bd}{kk:List Rat}(h:Bnd (.sl .rat) b kk):(WV.c (.one (.dt (.sl .rat) (.s b.len (.n (4*b.mx+4))) (vo kk)))).ok:=q8 (M7 h) rfl
def jk(c:Curv):Curv:=(c.1,vo c.2.1,c.2.2.reverse)
theorem Je{b:Bd}{c:Curv}(h:Bnd (.pr (.int .i64) (.pr (.sl .rat) (.sl (.pr qV .rat)))) b c):(WV.c (.agg [.dt (.pr (.int .i64) (.pr (.sl .rat) (.sl (.pr qV .rat)))) (.p b.l (.p (.s b.r.l.len (.n (4*b.r.l.mx+4))) b.r.r)) (jk c)])).ok:=by
 have h1:=h.pr;have h2:=h1.2.pr;refine qB ⟨h1.1,M7 h2.1,?_⟩;have h3:=h2.2;generalize b.r.r=q at h3⊢
 cases q with
 |s n e=>exact⟨by show c.2.2.reverse.length<=n;rw[List.length_reverse];exact h3.1,λy hy=>h3.2 y (List.mem_reverse.1 hy)⟩
 |_=>exact h3.elim
theorem q10(p:(Rat×Rat×Rat)×Rat):(addV p.1 (0,0,0),p.2+0)=p:=by simp[addV,Rat.add_zero]
theorem Cpy.step'{α:Type}{l out:List α}{i:Nat}(h:Cpy l out i)(d:α)(hi:i<l.length){v:α}(hv:v=l.getD i d):Cpy l (out.set i v) (i+1):=by
 subst hv;exact h.step d hi
theorem Cpy.start'{α:Type}{l:List α}{n:Nat}(d:α)(hn:n=l.length):Cpy l (List.replicate n d) 0:=by subst hn;exact Cpy.start d
theorem Bnd.slm{b:Bd}{l:List Rat}(h:Bnd (.sl .rat) b l):l.length<=b.len/\ ∀v∈l,Bnd .rat (.n b.mx) v:=by
 have h1:=h.sl;refine⟨h1.1,λv hv=>jL (h1.2 v hv) ?_⟩
 cases b with
 |s n e=>exact Bd.nb_mx e
 |_=>simp[Bd.e,Bd.nb]
theorem qK(n:Nat):Bnd .rat (.n n) (0:Rat):=⟨by show(0:Nat)<_;exact q6w (by omega),by show 1<=_;exact Nat.one_le_two_pow⟩
theorem zY{l:List Rat}{m:Nat}(h: ∀v∈l,Bnd .rat (.n m) v)(i:Nat):Bnd .rat (.n m) (l.getD i 0):=by
 rw[q5y]
 cases hq:l[i]? with
 |none=>exact qK m
 |some u=>exact h u (q5S hq)
theorem Kw{x y:Rat}{a b:Nat}(hx:Bnd .rat (.n a) x)(hy:Bnd .rat (.n b) y):Bnd .rat (.n (a+b)) (x/y):=Cm hx hy
def c2(i:Nat):Rat:=[1,2,1].getD i 0
def c4(i:Nat):Rat:=[1,4,6,4,1].getD i 0
abbrev j2:Type:=V3×Rat
abbrev qi:Ty:= .pr qV .rat
abbrev Four:Type:=Rat×Rat×Rat×Rat
abbrev Pv:Ty:= .pr .rat (.pr .rat (.pr .rat .rat))
abbrev OC(m:Nat):Bd:= .p (.n m) (.p (.n m) (.p (.n m) (.n m)))
abbrev j7:Type:=Int×List Rat×List j2
abbrev vj:Ty:= .pr (.int .i64) (.pr (.sl .rat) (.sl qi))
def zk(p:j2):Four:=(p.2*p.1.1,p.2*p.1.2.1,p.2*p.1.2.2,p.2)
theorem Bnd.pole{b:Bd}{x:j2}(h:Bnd qi b x):(Bnd .rat (.n b.mx) x.1.1/\Bnd .rat (.n b.mx) x.1.2.1/\Bnd .rat (.n b.mx) x.1.2.2)/\Bnd .rat (.n b.mx) x.2:=by
 have h1:=h.pr;have h2:=h1.1.v3;have:=b.l_mx;have:=b.r_mx
 exact⟨⟨qQ h2.1 (by omega),qQ h2.2.1 (by omega),qQ h2.2.2 (by omega)⟩,jL h1.2 (q6e (Bd.nb_mx _) (by omega))⟩
theorem NF{b:Bd}{p:j2}(h:Bnd qi b p):Bnd Pv (OC (2*b.mx)) (zk p):=by
 have h:=h.pole;exact⟨qQ (za h.2 h.1.1) (by omega),qQ (za h.2 h.1.2.1) (by omega),qQ (za h.2 h.1.2.2) (by omega),qQ h.2 (by omega)⟩
theorem Bnd.slm'{t:Ty}{b:Bd}{l:List t.den}(h:Bnd (.sl t) b l): ∀v∈l,Bnd t b.e v:=h.sl.2
theorem Bd.e_mx(b:Bd):b.e.mx<=b.mx:=by cases b<;>simp[Bd.e,Bd.mx]
theorem Nu{x y:Rat}:qL x y<=0↔x<=y:=by
 rw[FN,Rat.le_iff];split
 .omega
 .split<;>omega
section
abbrev j5(m:Nat):Bd:= .p (bV3 m) (.n m)
section
variable {p d e:V3} {k:Int}
end
theorem KS(m:Nat)(h:1<=m):Bnd .rat (.n m) ((1:Int):Rat):=qQ (a:=1) ⟨by unfold qM;decide,by unfold le2;decide⟩ h
theorem Pz{x:V3}{a c:Nat}(h:Bnd qV (bV3 a) x)(hm:a<=c):Bnd qV (bV3 c) x:=⟨qQ h.1 hm,qQ h.2.1 hm,qQ h.2.2 hm⟩
end
structure EqI {α:Type} (l m:List α) (i:Nat):Prop where
 hl:l.length=m.length
 hi:i<=l.length
 ht:l.take i=m.take i
theorem EqI.start{α:Type}{l m:List α}(h:l.length=m.length):EqI l m 0:=⟨h,by omega,by simp⟩
theorem EqI.step{α:Type}{l m:List α}{i:Nat}(h:EqI l m i)(d:α)(hi:i<l.length)(he:l.getD i d=m.getD i d):EqI l m (i+1):=
 ⟨h.hl,by omega,by have:=h.hl;rw[wn (d:=d) hi,wn (d:=d) (by omega),h.ht,he]⟩
theorem EqI.fin{α:Type}{l m:List α}{i:Nat}(h:EqI l m i)(hi: ¬i<l.length):l=m:=by
 have h1:=h.hl;have:=h.ht
 rwa [q5Z (by omega),q5Z (by omega)]at this
theorem q3I{α:Type}[DecidableEq α]{l m:List α}{i:Nat}(d:α)(h: ¬l.getD i d=m.getD i d):false=decide (l=m):=(decide_eq_false λe=>h (by rw[e])).symm
theorem q17{α:Type}[DecidableEq α]{l m:List α}(h:l.length≠m.length):false=decide (l=m):=(decide_eq_false λe=>h (by rw[e])).symm
abbrev jT:Type:=List Int×Nat
abbrev Ba:Ty:= .pr (.sl (.int .i64)) (.nat .i64)
theorem mod_a{a m:Int}(hm:0<m)(h:Int.tmod a m<0):Int.tmod a m+m=a%m:=by
 have h1:=Int.tmod_eq_emod (a:=a) (b:=m);have h2:=Int.emod_nonneg a (show m≠0 by omega);have h3:=Int.emod_lt_of_pos a hm;split at h1<;>omega
theorem q4E{a m:Int}(hm:0<m)(h: ¬Int.tmod a m<0):Int.tmod a m=a%m:=by
 have h1:=Int.tmod_eq_emod (a:=a) (b:=m);have h2:=Int.emod_nonneg a (show m≠0 by omega);have h3:=Int.emod_lt_of_pos a hm;split at h1<;>omega
theorem Rb{a m:Int}{b:Nat}(hm:0<m)(hb:Int.natAbs m<=b):(a%m).natAbs<=b:=by
 have h2:=Int.emod_nonneg a (show m≠0 by omega);have h3:=Int.emod_lt_of_pos a hm;omega
def qf(s:jT)(m:Int):Int:=if s.1.length<=s.2 then 0 else s.1.getD s.2 0%m
def qw(s:jT):jT:=if s.1.length<=s.2 then s else(s.1,s.2+1)
theorem Xk{s:jT}{m:Int}{b:Nat}(hm:0<m)(hb:Int.natAbs m<=b):(qf s m).natAbs<=b:=by
 unfold qf;split
 .simp
 .exact Rb hm hb
theorem AU(s:jT){m:Int}(hm:0<m):0<=qf s m/\qf s m<m:=by
 unfold qf;split
 .omega
 .exact⟨Int.emod_nonneg _ (by omega),Int.emod_lt_of_pos _ hm⟩
theorem DS{s:jT}{b:Bd}(h:Bnd Ba b s):Bnd Ba (.p b.l (.n (max b.r.nb b.l.len))) (qw s):=by
 have h1:=h.pr;have h2:=h1.2.nat;have h3:=h1.1.sl.1;unfold qw;split
 .exact⟨h1.1,q6e h2 (q6Q _ _)⟩
 .refine⟨h1.1,?_⟩
  show s.2+1<=_;have:=q6R b.r.nb b.l.len;omega
theorem EF{s:jT}{b:Bd}(h:Bnd Ba (.p b.l (.n (max b.r.nb b.l.len))) s):Bnd Ba (.p b.l (.n (max b.r.nb b.l.len))) (qw s):=by
 have:=DS h;simpa[Bd.l,Bd.r,Bd.nb,Nat.max_assoc]using this
theorem q13{s:jT}{b:Bd}(h:Bnd Ba b s):Bnd Ba (.p b.l (.n (max b.r.nb b.l.len))) s:=
 ⟨h.pr.1,q6e h.pr.2.nat (q6Q _ _)⟩
theorem Lb{a b e:Int}(h:a-b=e)(hb:e.natAbs<=4611686018427387904):qU .sub .i64 a b e:=by
 show IntKind.wrap .i64 (a-b)=e;rw[h];exact MX (by omega) (by omega)
section
theorem E7(x:Rat):Nat.gcd x.num.natAbs x.den=1:=x.reduced
theorem Oi{d:Nat}(h:(denL d).length=1)(h1:(denL d).getD 0 0=1):False:=by
 rw[IY]at h h1;have e:dm d=1:=zL h h1;unfold dm at e;split at e<;>omega
theorem Gt{x:Rat}(h:(limbs x.num.natAbs).length=0)(h2:x.num<0):False:=by
 have:=nl0.1 h;omega
theorem Hm{x:Rat}(h:(limbs x.num.natAbs).length=0)(h2:0<(denL x.den).length):False:=by
 have e:x=0:=Rat.num_eq_zero.1 (by have:=nl0.1 h;omega);subst e;exact absurd h2 (by decide)
theorem B1{g:Nat}(h:g=1):(limbs g).length=1/\(limbs g).getD 0 0=1:=by subst h;exact⟨by rw[AS];rfl,by rw[AS];rfl⟩
def vp(x:Rat):Nat:=max (bl x.num.natAbs) (bl x.den)
theorem GM{x:Rat}{m:Nat}(h:Bnd .rat (.n m) x):vp x<=m+1:=by
 have h:=h.rat;have h1:=C1 h.1;have h2:=C1 (An h.2);simp only[Bd.nb]at h1 h2;unfold vp;omega
def jV(k:List Rat):Nat->List Rat
 |0=>[]
 |n+1=>if n=0\/k.getD n 0≠k.getD (n-1) 0 then jV k n++[k.getD n 0]else jV k n
abbrev dst(k:List Rat):List Rat:=jV k k.length
theorem Bk(k:List Rat): ∀n,(jV k n).length<=n
 |0=>q6d 0
 |n+1=>by have:=Bk k n;rw[jV];split<;>(try simp only[q5G,q5H,q5K])<;>omega
theorem Em{k:List Rat}: ∀{n:Nat},n<=k.length-> ∀x∈jV k n,x∈k
 |0,_,x,h=>by cases h
 |n+1,hn,x,h=>by
  rw[jV]at h;split at h
  .rcases q5N.1 h with h|h
   .exact Em (by omega) x h
   .simp only[q5U]at h;subst h;rw[z6 (by omega)];exact q6M _
  .exact Em (by omega) x h
theorem Uh{k:List Rat}{b:Bd}(h:Bnd (.sl .rat) b k):Bnd (.sl .rat) (.s b.len (.n b.mx)) (dst k):=
 ⟨q6e (Bk k _) h.slm.1,λv hv=>h.slm.2 v (Em (q6d _) v hv)⟩
theorem NB{k:List Rat}{n:Nat}(h:n=0\/ ¬k.getD n 0=k.getD (n-1) 0):jV k n++[k.getD n 0]=jV k (n+1):=by rw[jV,if_pos h]
theorem q16{k:List Rat}{n:Nat}(h: ¬n=0)(h2:k.getD n 0=k.getD (n-1) 0):jV k n=jV k (n+1):=by rw[jV,if_neg (by rintro(e|e);exact h e;exact e h2)]
def qW(k:List Rat)(t:Rat):Nat->Nat
 |0=>0
 |n+1=>if k.getD n 0=t then qW k t n+1 else qW k t n
theorem BY(k:List Rat)(t:Rat): ∀n,qW k t n<=n
 |0=>q6d 0
 |n+1=>by have:=BY k t n;rw[qW];split<;>omega
def vD(k:List Rat):Nat->Bool
 |0=>true
 |n+1=>vD k n&&(decide (n=0)||decide (¬qL (k.getD n 0) (k.getD (n-1) 0)<0))
theorem TO{k:List Rat}{n:Nat}(h:vD k n=true)(h2: ¬qL (k.getD n 0) (k.getD (n-1) 0)<0):vD k (n+1)=true:=by rw[vD,h,decide_eq_true h2];simp
theorem Oe{k:List Rat}{n m:Nat}(hn:1<=n)(h2:qL (k.getD n 0) (k.getD (n-1) 0)<0)(hm:n<m):vD k m=false:=by
 induction m with
 |zero=>omega
 |succ m ih=>
  rw[vD];by_cases e:n=m
  .subst e;rw[decide_eq_false (show¬n=0 by omega),decide_eq_false (show¬ ¬_ from λh=>h h2)];simp
  .rw[ih (by omega)];rfl
def vI(k:List Rat)(d:Int)(i:Nat):Prop:=
 ((i=0\/i+1=(dst k).length)/\((qW k ((dst k).getD i 0) k.length:Nat):Int)≠d+1)\/d+1<((qW k ((dst k).getD i 0) k.length:Nat):Int)\/(0<i/\i+1<(dst k).length/\d<((qW k ((dst k).getD i 0) k.length:Nat):Int))
instance(k:List Rat)(d:Int)(i:Nat):Decidable (vI k d i):=by unfold vI;infer_instance
def okN(k:List Rat)(d:Int):Nat->Bool
 |0=>true
 |i+1=>okN k d i&&decide (¬vI k d i)
theorem zE{k:List Rat}{d:Int}{i:Nat}(h:okN k d i=true)(h2: ¬vI k d i):okN k d (i+1)=true:=by rw[okN,h,decide_eq_true h2];rfl
theorem wU{k:List Rat}{d:Int}{i m:Nat}(h2:vI k d i)(hm:i<m):okN k d m=false:=by
 induction m with
 |zero=>omega
 |succ m ih=>
  rw[okN];by_cases e:i=m
  .subst e;rw[decide_eq_false (show¬ ¬_ from λh=>h h2),Bool.and_false]
  .rw[ih (by omega)];rfl
def qF(k:List Rat)(d:Int):Int:=
 if d<1\/6<d then 1 else if(k.length:Int)<2*d+2 then 5 else if 40<(k.length:Int) -d-1 then 2 else
 if vD k k.length=false then 5 else if okN k d (dst k).length=false then 5 else if(dst k).length<2 then 5 else 0
theorem HJ(k:List Rat)(d:Int):(qF k d).natAbs<=5:=by
 unfold qF
 repeat' split
 all_goals decide
section
variable {k:List Rat} {d:Int}
theorem Kv(h:d<1\/6<d):1=qF k d:=by rw[qF,if_pos h]
theorem U5(h: ¬(d<1\/6<d))(h2:(k.length:Int)<2*d+2):5=qF k d:=by rw[qF,if_neg h,if_pos h2]
theorem U6(h: ¬(d<1\/6<d))(h2: ¬(k.length:Int)<2*d+2)(h3:40<(k.length:Int) -d-1):2=qF k d:=by rw[qF,if_neg h,if_neg h2,if_pos h3]
theorem U7(h: ¬(d<1\/6<d))(h2: ¬(k.length:Int)<2*d+2)(h3: ¬40<(k.length:Int) -d-1)(h4:vD k k.length=false):5=qF k d:=by rw[qF,if_neg h,if_neg h2,if_neg h3,if_pos h4]
theorem Al(h: ¬(d<1\/6<d))(h2: ¬(k.length:Int)<2*d+2)(h3: ¬40<(k.length:Int) -d-1)(h4:vD k k.length=true)(h5:okN k d (dst k).length=false):5=qF k d:=by
 rw[qF,if_neg h,if_neg h2,if_neg h3,if_neg (by rw[h4];exact λe=>by cases e),if_pos h5]
theorem U8(h: ¬(d<1\/6<d))(h2: ¬(k.length:Int)<2*d+2)(h3: ¬40<(k.length:Int) -d-1)(h4:vD k k.length=true)(h5:okN k d (dst k).length=true)(h6:(dst k).length<2):5=qF k d:=by
 rw[qF,if_neg h,if_neg h2,if_neg h3,if_neg (by rw[h4];exact λe=>by cases e),if_neg (by rw[h5];exact λe=>by cases e),if_pos h6]
theorem U9(h: ¬(d<1\/6<d))(h2: ¬(k.length:Int)<2*d+2)(h3: ¬40<(k.length:Int) -d-1)(h4:vD k k.length=true)(h5:okN k d (dst k).length=true)(h6: ¬(dst k).length<2):0=qF k d:=by
 rw[qF,if_neg h,if_neg h2,if_neg h3,if_neg (by rw[h4];exact λe=>by cases e),if_neg (by rw[h5];exact λe=>by cases e),if_neg h6]
end
section
variable {c:j7}
end
def ivl(k:List Rat)(t:Rat):Nat->Nat
 |0=>0
 |n+1=>if qL t (k.getD (n+1) 0)<0 then ivl k t n else n+1
theorem BP(k:List Rat)(t:Rat): ∀n,ivl k t n<=n
 |0=>q6d 0
 |n+1=>by have:=BP k t n;rw[ivl];split<;>omega
theorem T0{k:List Rat}{t:Rat}{n:Nat}(h0:0<n)(h:qL t (k.getD n 0)<0):ivl k t (n-1)=ivl k t n:=by
 obtain⟨m,rfl⟩: ∃m,n=m+1:=⟨n-1,by omega⟩;rw[ivl,if_pos h];rfl
theorem T1{k:List Rat}{t:Rat}{n:Nat}(h:0<n-> ¬qL t (k.getD n 0)<0):ivl k t n=n:=by
 cases n with
 |zero=>rfl
 |succ m=>rw[ivl,if_neg (h (by omega))]
def ivO(k:List Rat)(t:Rat):Prop:=qL t (k.getD 0 0)<0\/0<qL t (k.getD (k.length-1) 0)
instance(k:List Rat)(t:Rat):Decidable (ivO k t):=by unfold ivO;infer_instance
def ivE(k:List Rat)(t:Rat):Int:=if ivO k t then 7 else 0
def jG(k:List Rat)(d:Int)(t:Rat):Nat:=if ivO k t then 0 else ivl k t (k.length-2-d.toNat)
theorem QY(k:List Rat)(d:Int)(t:Rat):jG k d t<=k.length:=by
 unfold jG;split
 .omega
 .have:=BP k t (k.length-2-d.toNat);omega
theorem I0(k:List Rat)(t:Rat):(ivE k t).natAbs<=7:=by unfold ivE;split<;>decide
structure IvZ (k:List Rat) (d:Int) (t:Rat) (z:Nat):Prop where
 hi:z<=k.length-2-d.toNat
 he:ivl k t z=ivl k t (k.length-2-d.toNat)
theorem IvZ.start(k:List Rat)(d:Int)(t:Rat):IvZ k d t (k.length-2-d.toNat):=⟨q6d _,rfl⟩
theorem IvZ.step{k:List Rat}{d:Int}{t:Rat}{z:Nat}(h:IvZ k d t z)(h0:0<z)(h2:qL t (k.getD z 0)<0):IvZ k d t (z-1):=⟨by have:=h.hi;omega,by rw[T0 h0 h2,h.he]⟩
theorem IvZ.fin{k:List Rat}{d:Int}{t:Rat}{z:Nat}(h:IvZ k d t z)(hO: ¬ivO k t)(h2:0<z-> ¬qL t (k.getD z 0)<0):z=jG k d t:=by
 rw[jG,if_neg hO,<-h.he,T1 h2]
def bsp(k:List Rat)(t:Rat)(at_:Nat):Nat->Nat->Rat
 |0,i=>if i=at_ then((1:Int):Rat)else 0
 |d+1,i=>if at_<i\/i+(d+1)<at_ then 0 else
  (t-k.getD i 0)/(k.getD (i+(d+1)) 0-k.getD i 0)*bsp k t at_ d i+(k.getD (i+(d+1)+1) 0-t)/(k.getD (i+(d+1)+1) 0-k.getD (i+1) 0)*bsp k t at_ d (i+1)
def bspB(m:Nat):Nat->Nat
 |0=>2
 |d+1=>2*(4*m+2+bspB m d)+1
theorem JO(m:Nat){a c:Nat}(h:a<=c):bspB m a<=bspB m c:=by
 induction h with
 |refl=>exact q6d _
 |step h ih=>rw[bspB];omega
theorem Ku{k:List Rat}{t:Rat}{m:Nat}(hk: ∀v∈k,Bnd .rat (.n m) v)(ht:Bnd .rat (.n m) t)(a:Nat): ∀d i,Bnd .rat (.n (bspB m d)) (bsp k t a d i)
 |0,i=>by
  rw[bsp];split
  .exact KS _ (show 1<=2 by decide)
  .exact qK _
 |d+1,i=>by
  rw[bsp];split
  .exact qK _
  .have g: ∀j,Bnd .rat (.n m) (k.getD j 0):=λj=>zY hk j
   have h1:=za (Kw (A8 ht (g i)) (A8 (g (i+(d+1))) (g i))) (Ku hk ht a d i);have h2:=za (Kw (A8 (g (i+(d+1)+1)) ht) (A8 (g (i+(d+1)+1)) (g (i+1)))) (Ku hk ht a d (i+1));exact qQ (AD h1 h2) (by rw[bspB];omega)
theorem Yp{k:List Rat}{t:Rat}(hk: ∀v∈k,Bnd .rat (.n 4096) v)(ht:Bnd .rat (.n 4096) t)(a:Nat){d:Int}(hd:d<=6)(i:Nat):Bnd .rat (.n 4194304) (bsp k t a d.toNat i):=
 qQ (Ku hk ht a d.toNat i) (q6e (JO 4096 (show d.toNat<=6 by omega)) (by decide))
def jC(k:List Rat)(d:Int)(t:Rat):List Rat:=if ivO k t then[]else(List.range (d.toNat+1)).map λj=>bsp k t (jG k d t) d.toNat (jG k d t-d.toNat+j)
end
abbrev F4:Type:=Rat×Rat×Rat×Rat
abbrev jx:Ty:= .pr .rat (.pr .rat (.pr .rat .rat))
abbrev bF4(m:Nat):Bd:= .p (.n m) (.p (.n m) (.p (.n m) (.n m)))
def jN(p:j2):F4:=(p.2*p.1.1,p.2*p.1.2.1,p.2*p.1.2.2,p.2)
def jJ(h:F4):j2:=(BV (((1:Int):Rat)/h.2.2.2) (h.1,h.2.1,h.2.2.1),h.2.2.2)
theorem Es{x:F4}{a c:Nat}(h:Bnd jx (bF4 a) x)(hm:a<=c):Bnd jx (bF4 c) x:=⟨qQ h.1 hm,qQ h.2.1 hm,qQ h.2.2.1 hm,qQ h.2.2.2 hm⟩
theorem Ck{p:j2}{b:Bd}(h:Bnd (.pr qV .rat) b p):Bnd jx (bF4 (2*b.mx)) (jN p):=by
 have hw:Bnd .rat (.n b.mx) p.2:=jL h.pr.2 (q6e (Bd.nb_mx _) b.r_mx);have hv:=h.pr.1.v3;have:=b.l_mx;exact⟨qQ (za hw hv.1) (by omega),qQ (za hw hv.2.1) (by omega),qQ (za hw hv.2.2) (by omega),qQ hw (by omega)⟩
theorem DN{h:F4}{b:Bd}(hh:Bnd jx b h):Bnd (.pr qV .rat) (.p (bV3 (2*b.mx+2)) (.n (2*b.mx+2))) (jJ h):=by
 have g1:=hh.pr.1;have g2:=hh.pr.2.pr.1;have g3:=hh.pr.2.pr.2.pr.1;have g4:=hh.pr.2.pr.2.pr.2;have w: ∀{c:Bd}{x:Rat},Bnd .rat c x->c.mx<=b.mx->Bnd .rat (.n b.mx) x:=λhx hm=>jL hx (q6e (Bd.nb_mx _) hm)
 have m1:=b.l_mx;have m2:=b.r_mx;have m3:=b.r.l_mx;have m4:=b.r.r_mx;have m5:=b.r.r.l_mx;have m6:=b.r.r.r_mx
 have k1:=w g1 m1;have k2:=w g2 (by omega);have k3:=w g3 (by omega);have k4:=w g4 (by omega);have q:=Kw (KS 1 (q6d 1)) k4;exact⟨⟨qQ (za q k1) (by omega),qQ (za q k2) (by omega),qQ (za q k3) (by omega)⟩,qQ k4 (by omega)⟩
abbrev d0:j2:=((0,0,0),0)
def homS(o:F4)(x:Rat)(h:F4):F4:=(o.1+x*h.1,o.2.1+x*h.2.1,o.2.2.1+x*h.2.2.1,o.2.2.2+x*h.2.2.2)
def homN(ps:List j2)(l:List Rat)(f:Nat):Nat->F4
 |0=>(0,0,0,0)
 |n+1=>homS (homN ps l f n) (l.getD n 0) (jN (ps.getD (f+n) d0))
theorem LU{ps:List j2}{l:List Rat}{m e:Nat}(hp: ∀p∈ps,Bnd (.pr qV .rat) (.p (bV3 m) (.n m)) p)(hl: ∀v∈l,Bnd .rat (.n e) v)(f:Nat): ∀n,Bnd jx (bF4 (n*(e+2*m+1))) (homN ps l f n)
 |0=>⟨qK _,qK _,qK _,qK _⟩
 |n+1=>by
  have h:=LU hp hl f n
  have hh:Bnd jx (bF4 (2*m)) (jN (ps.getD (f+n) d0)):=by
   by_cases hi:f+n<ps.length
   .have:=Ck (hp _ (show ps.getD (f+n) d0∈ps by rw[z6 hi];exact q6M hi))
    exact Es this (by simp only[Bd.mx];omega)
   .have:ps.getD (f+n) d0=d0:=by rw[q5y,q5D (by omega)];rfl
    rw[this];have z: ∀a,(0:Rat)*a=0:=λa=>Rat.zero_mul a
    unfold jN;simp only[z];exact⟨qK _,qK _,qK _,qK _⟩
  have hx:Bnd .rat (.n e) (l.getD n 0):=zY hl n;have e1:(n+1)*(e+2*m+1)=n*(e+2*m+1)+(e+2*m)+1:=by rw[q63];omega
  rw[e1];have s: ∀{a c:Rat},Bnd .rat (.n (n*(e+2*m+1))) a->Bnd .rat (.n (2*m)) c->Bnd .rat (.n (n*(e+2*m+1)+(e+2*m)+1)) (a+l.getD n 0*c):=λha hc=>AD ha (za hx hc)
  exact⟨s h.1 hh.1,s h.2.1 hh.2.1,s h.2.2.1 hh.2.2.1,s h.2.2.2 hh.2.2.2⟩
structure EvC (c:j7) (t:Rat):Prop where
 kb:Bnd (.sl .rat) (.s 64 (.n 4096)) c.2.1
 pb: ∀p∈c.2.2,Bnd (.pr qV .rat) (.p (bV3 262144) (.n 262144)) p
 tb:Bnd .rat (.n 4096) t
 d0:0<=c.1
 d6:c.1<=6
 kl:2*c.1.toNat+2<=c.2.1.length
 pl:c.2.2.length+c.1.toNat+1=c.2.1.length
 iv:ivO c.2.1 t\/c.1.toNat<=jG c.2.1 c.1 t
abbrev bvc(c:j7)(t:Rat):List Rat:=jC c.2.1 c.1 t
def homV(c:j7)(t:Rat):F4:=homN c.2.2 (bvc c t) (jG c.2.1 c.1 t-c.1.toNat) (bvc c t).length
def evV(c:j7)(t:Rat):V3:=if ivO c.2.1 t then(0,0,0)else(jJ (homV c t)).1
theorem IW{k:List Rat}{d:Int}{t:Rat}(h: ¬ivO k t):(jC k d t).length=d.toNat+1:=by unfold jC;rw[if_neg h];simp
theorem Hz(k:List Rat)(d:Int)(t:Rat):(jC k d t).length<=d.toNat+1:=by unfold jC;split<;>simp
theorem OG{k:List Rat}{d:Int}{t:Rat}(hk: ∀v∈k,Bnd .rat (.n 4096) v)(ht:Bnd .rat (.n 4096) t)(hd:d<=6): ∀v∈jC k d t,Bnd .rat (.n 4194304) v:=by
 intro v hv;unfold jC at hv;split at hv
 .cases hv
 .obtain⟨j,_,rfl⟩:=q6T.1 hv
  exact Yp hk ht _ hd _
theorem q1B{c:j7}{t:Rat}(h:EvC c t):Bnd jx (bF4 33554432) (homV c t):=by
 refine Es (LU h.pb (OG (λv hv=>h.kb.2 v hv) h.tb h.d6) _ _) ?_;have:=Hz c.2.1 c.1 t;have:=h.d6;have e:(bvc c t).length<=7:=by show(jC _ _ _).length<=7;omega
 have:=q6r (4194304+2*262144+1) e;omega
theorem Ul{c:j7}{t:Rat}(h:EvC c t):Bnd qV (bV3 67108868) (evV c t):=by
 unfold evV;split
 .exact⟨qK _,qK _,qK _⟩
 .have e:(bF4 33554432).mx=33554432:=by decide
  exact Pz (DN (q1B h)).1 (by omega)
theorem q47{k:List Rat}{d:Int}{t:Rat}(h:ivE k t≠0):0=jG k d t-d.toNat:=by
 unfold ivE at h;split at h
 .rename_i g;rw[jG,if_pos g];omega
 .exact absurd rfl h
theorem q48{k:List Rat}{d:Int}{t:Rat}(h:ivE k t≠0):[]=jC k d t:=by
 unfold ivE at h;split at h
 .rename_i g;rw[jC,if_pos g]
 .exact absurd rfl h
theorem D8{k:List Rat}{t:Rat}(h: ¬ivE k t≠0): ¬ivO k t:=λg=>h (by rw[ivE,if_pos g];decide)
theorem OY{k:List Rat}{t:Rat}(h: ¬ivO k t):0=ivE k t:=by rw[ivE,if_neg h]
theorem q3N{c:j7}{t:Rat}(h:ivE c.2.1 t≠0):(0,0,0)=evV c t:=by
 unfold ivE at h;split at h
 .rename_i g;rw[evV,if_pos g]
 .exact absurd rfl h
theorem q3O{c:j7}{t:Rat}(h: ¬ivE c.2.1 t≠0):(jJ (homV c t)).1=evV c t:=by rw[evV,if_neg (D8 h)]
section
theorem q0X{x y:Rat}:qL x y<0↔x<y:=by
 unfold qL;split
 .rename_i h;exact⟨λ_=>h,λ_=>by decide⟩
 .rename_i h;split
  .exact⟨λh=>absurd h (by decide),λg=>absurd g h⟩
  .exact⟨λh=>absurd h (by decide),λg=>absurd g h⟩
section
variable (a b c m:V3) (w t:Rat)
end
end
section
section
variable {a b c m:V3} {w t:Rat}
end
end
section
def fidx(p:Nat->Bool):Nat->Nat->Int
 |_,0=> -1
 |i,k+1=>if p i=true then(i:Int)else fidx p (i+1) k
theorem HS(p:Nat->Bool): ∀(k i:Nat),-1<=fidx p i k/\fidx p i k<=i+k
 |0,i=>by rw[fidx];omega
 |k+1,i=>by
  have:=HS p k (i+1);rw[fidx];split<;>omega
theorem J0{p:Nat->Bool}{i n:Nat}(h:fidx p i (n-i)=fidx p 0 n)(hi:i<n)(hp: ¬p i=true):fidx p (i+1) (n-(i+1))=fidx p 0 n:=by
 rw[show n-i=(n-(i+1))+1 by omega,fidx,if_neg hp]at h;exact h
theorem GS{p:Nat->Bool}{i n:Nat}(h:fidx p i (n-i)=fidx p 0 n)(hi:i<n)(hp:p i=true):(i:Int)=fidx p 0 n:=by
 rw[show n-i=(n-(i+1))+1 by omega,fidx,if_pos hp]at h;exact h
theorem GR{p:Nat->Bool}{i n:Nat}(h:fidx p i (n-i)=fidx p 0 n)(hi: ¬i<n): -1=fidx p 0 n:=by
 rw[show n-i=0 by omega,fidx]at h;exact h
theorem FU{p:Nat->Bool}: ∀{k i:Nat},0<=fidx p i k↔ ∃j,i<=j/\j<i+k/\p j=true
 |0,i=>by rw[fidx];exact⟨λh=>absurd h (by decide),λ⟨j,h1,h2,_⟩=>by omega⟩
 |k+1,i=>by
  rw[fidx];split
  .rename_i h;exact⟨λ_=>⟨i,q6d _,by omega,h⟩,λ_=>by omega⟩
  .rename_i h
   rw[FU];constructor
   .rintro⟨j,h1,h2,h3⟩;exact⟨j,by omega,by omega,h3⟩
   .rintro⟨j,h1,h2,h3⟩
    rcases Nat.eq_or_lt_of_le h1 with e|e
    .subst e;exact absurd h3 h
    .exact⟨j,e,by omega,h3⟩
def unqN{α:Type}(d:α)(e:α->α->Bool)(l:List α):Nat->List α
 |0=>[]
 |n+1=>if n=0\/ ¬e (l.getD n d) (l.getD (n-1) d)=true then unqN d e l n++[l.getD n d]else unqN d e l n
section
variable {α:Type} {d:α} {e:α->α->Bool} {l:List α}
structure CmO (d:α) (e:α->α->Bool) (l:List α) (i:Nat):Prop where
 h:unqN d e l i=l.take i
 h1:1<=i
 hl:i<=l.length
theorem CmO.start(h:2<=l.length):CmO d e l 1:=by
 refine⟨?_,q6d 1,by omega⟩;rw[unqN,if_pos (.inl rfl),unqN,wn (d:=d) (by omega)];simp
theorem CmO.step{i:Nat}(h:CmO d e l i)(hi:i<l.length)(hp: ¬e (l.getD i d) (l.getD (i-1) d)=true):CmO d e l (i+1):=
 ⟨by rw[unqN,if_pos (.inr hp),h.h,wn (d:=d) hi],by omega,by omega⟩
theorem CmO.fin{i:Nat}(h:CmO d e l i)(hi: ¬i<l.length):unqN d e l l.length=l:=by
 have:=h.h;have e1:i=l.length:=by have:=h.hl;omega
 rw[e1,q5Y]at this;exact this
structure CmI (d:α) (e:α->α->Bool) (l m:List α) (k i:Nat):Prop where
 hl:m.length=l.length
 hk:k+1<=i
 hi:i<=l.length
 ht:m.take k=unqN d e l i
 hd: ∀j,i<=j+1->m.getD j d=l.getD j d
theorem CmI.start{i:Nat}(h:CmO d e l i)(hi:i<l.length)(hp:e (l.getD i d) (l.getD (i-1) d)=true):CmI d e l l i (i+1):=
 ⟨rfl,q6d _,hi,by rw[unqN,if_neg (by rintro(h2|h2);exact absurd h.h1 (by omega);exact h2 hp),h.h],λ_ _=>rfl⟩
theorem XY{m:List α}{k j:Nat}{v:α}(h:k≠j):(m.set k v).getD j d=m.getD j d:=by
 rw[q5y,List.getElem?_set_ne h,<-q5y]
theorem CmI.go{m:List α}{k i:Nat}(h:CmI d e l m k i)(hi:i<l.length)(hp: ¬e (m.getD i d) (m.getD (i-1) d)=true):CmI d e l (m.set k (m.getD i d)) (k+1) (i+1):=by
 have hk:=h.hk;have e1:=h.hd i (by omega);have e2:=h.hd (i-1) (by omega);rw[e1,e2]at hp;refine⟨by rw[q6S,h.hl],by omega,by omega,?_,λj hj=>?_⟩
 .rw[Mw (by rw[h.hl];omega),h.ht,unqN,if_pos (.inr hp),e1]
 .rw[XY (by omega)];exact h.hd j (by omega)
theorem CmI.stay{m:List α}{k i:Nat}(h:CmI d e l m k i)(hi:i<l.length)(hp:e (m.getD i d) (m.getD (i-1) d)=true):CmI d e l m k (i+1):=by
 have hk:=h.hk;rw[h.hd i (by omega),h.hd (i-1) (by omega)]at hp;exact⟨h.hl,by omega,by omega,by rw[h.ht,unqN,if_neg (by rintro(h2|h2);omega;exact h2 hp)],λj hj=>h.hd j (by omega)⟩
theorem CmI.fin{m:List α}{k i:Nat}(h:CmI d e l m k i)(hi:i=l.length):m.take k=unqN d e l l.length/\k=(unqN d e l l.length).length/\k<l.length:=by
 have hk:=h.hk;subst hi;have ht:=h.ht;refine⟨ht,?_,by omega⟩;rw[<-ht,q5L,h.hl];omega
end
section
variable {α:Type} {d:α} {e:α->α->Bool} {l:List α}
end
section
variable {α:Type} (d:α) (c:α->α->Int)
def posR(x:α)(p:List α):Nat->Nat
 |0=>0
 |j+1=>if c x (p.getD j d)<0 then posR x p j else j+1
theorem NW(x:α)(p:List α): ∀j,posR d c x p j<=j
 |0=>q6d 0
 |j+1=>by
  unfold posR;split
  .exact Nat.le_succ_of_le (NW x p j)
  .exact q6d _
def insR(x:α)(p:List α):List α:=p.take (posR d c x p p.length)++x::p.drop (posR d c x p p.length)
theorem SY(x:α)(p:List α):(insR d c x p).length=p.length+1:=by
 have:=NW d c x p p.length;unfold insR;simp only[q5G,q5L,q5H,q5I];omega
def AG(l:List α):Nat->List α
 |0=>[]
 |i+1=>insR d c (l.getD i d) (AG l i)
theorem Fs(l:List α): ∀i,(AG d c l i).length=i
 |0=>rfl
 |i+1=>by rw[AG,SY,Fs l i]
structure SoO (l m:List α) (i:Nat):Prop where
 h:m=AG d c l i++l.drop i
 hi:i<=l.length
structure SoI (l m:List α) (i j:Nat):Prop where
 h:m=((AG d c l i).take j++l.getD i d::(AG d c l i).drop j)++l.drop (i+1)
 hi:i<l.length
 hj:j<=i
 hp:posR d c (l.getD i d) (AG d c l i) j=posR d c (l.getD i d) (AG d c l i) i
variable {d c} {l m:List α} {i j:Nat}
theorem SoO.inner(h:SoO d c l m i)(hi:i<l.length):SoI d c l m i i:=by
 have hl:=Fs d c l i;refine⟨?_,hi,q6d _,rfl⟩;have e1:(AG d c l i).take i=AG d c l i:=q5Z (by omega);have e2:(AG d c l i).drop i=[]:=q5u (by omega);rw[h.h,e1,e2,q5s,List.drop_eq_getElem_cons hi,z6 hi];rfl
theorem SoI.at_(h:SoI d c l m i j):m.getD j d=l.getD i d:=by
 have hl:=Fs d c l i;have h2:=h.hj
 rw[h.h,q5y,List.getElem?_append_left (by simp only[q5G,q5L,q5H];omega),List.getElem?_append_right (by simp only[q5L];omega)];simp only[q5L,show j-min j (AG d c l i).length=0 by omega];rfl
end
end
theorem Se{x:Rat}(h:(limbs x.num.natAbs).length=0):(denL x.den).length=0:=Nat.eq_zero_of_not_pos λh2=>Hm h h2
theorem Qn{d:Nat}(h: ¬(denL d).length=0):denL d=limbs d:=C2 h
theorem PT(x:Rat):bl (Nat.gcd x.num.natAbs x.den)=1:=by rw[E7];decide+kernel
theorem Hi{k:List Rat}: ∀{n:Nat},vD k n=true↔ ∀j,1<=j->j<n-> ¬qL (k.getD j 0) (k.getD (j-1) 0)<0
 |0=>⟨λ_ j _ h=>by omega,λ_=>rfl⟩
 |n+1=>by
  rw[vD,q5m,Hi,Bool.or_eq_true,decide_eq_true_eq,decide_eq_true_eq];constructor
  .rintro⟨h1,h2⟩ j hj hjn
   rcases q6h j n with h|h
   .exact h1 j hj h
   .have:j=n:=by omega
    subst this;exact h2.resolve_left (by omega)
  .intro h
   refine⟨λj hj hjn=>h j hj (by omega),?_⟩;by_cases e:n=0
   .exact .inl e
   .exact .inr (h n (by omega) (by omega))
def SrtI(k:List Rat)(i:Nat):Prop:= ∀j,i<j->j<k.length-> ¬qL (k.getD j 0) (k.getD (j-1) 0)<0
theorem SrtI.start(k:List Rat):SrtI k (k.length-1):=λj h h2=>by omega
theorem SrtI.step{k:List Rat}{i:Nat}(h:SrtI k i)(hp: ¬qL (k.getD i 0) (k.getD (i-1) 0)<0):SrtI k (i-1):=λj h1 h2=>by
 rcases Nat.eq_or_lt_of_le (show i<=j by omega)with e|e
 .subst e;exact hp
 .exact h j e h2
theorem SrtI.fin{k:List Rat}{i:Nat}(h:SrtI k i)(hi: ¬0<i):vD k k.length=true:=Hi.2 λj h1 h2=>h j (by omega) h2
theorem Hk(k:List Rat): ∀n,unqN 0 (λx y=>decide (x=y)) k n=jV k n
 |0=>rfl
 |n+1=>by
  rw[unqN,jV,Hk k n];by_cases h:n=0\/k.getD n 0≠k.getD (n-1) 0
  .rw[if_pos h,if_pos (h.imp id λh=>by simpa using h)]
  .rw[if_neg h,if_neg (λh2=>h (h2.imp id λh=>by simpa using h))]
abbrev eqR:Rat->Rat->Bool:=λx y=>decide (x=y)
theorem SB{t:Ty}{l:List t.den}{lo n:Nat}(h:lo+n<=l.length):(clrL t l lo n).length=l.length:=by
 unfold clrL;simp only[q5G,q5L,List.length_replicate,q5I];omega
def unqL(l:List Rat):List Rat:=dst l++List.replicate (l.length-(dst l).length) 0
theorem LM(l:List Rat):(dst l).length<=l.length:=Bk l _
theorem TS(l:List Rat):(unqL l).length=l.length:=by
 have:=LM l;unfold unqL;simp only[q5G,List.length_replicate];omega
theorem S9(l:List Rat):(unqL l).take (dst l).length=dst l:=by unfold unqL;simp
theorem Kh{l:List Rat}(h:dst l=l):l=unqL l:=by unfold unqL;rw[h];simp
theorem q3f{l:List Rat}{b:Bd}(h: ∀u∈l,Bnd .rat b u)(hb: ∀m,b= .n m->True)(h0:Bnd .rat b 0): ∀u∈unqL l,Bnd .rat b u:=λu hu=>by
 rcases q5N.1 hu with hu|hu
 .exact h u (Em (q6d _) u hu)
 .rw[List.eq_of_mem_replicate hu];exact h0
theorem JT{l:List Rat}(h:l.length<2):dst l=l:=by
 match l,h with
 |[],_=>rfl
 |[x],_=>rfl
theorem CmO.dst{l:List Rat}{i:Nat}(h:CmO 0 eqR l i)(hi: ¬i<l.length):Sx.dst l=l:=by
 have:=h.fin hi
 rwa [Hk]at this
theorem CmI.dst{l m:List Rat}{k i n:Nat}(h:CmI 0 eqR l m k i)(hi:i=l.length)(hn:n=l.length):clrL .rat m k (n-k)=unqL l/\k=(Sx.dst l).length:=by
 obtain⟨h1,h2,h3⟩:=h.fin hi;rw[Hk]at h1 h2;refine⟨?_,h2⟩;unfold clrL unqL;have hl:=h.hl;rw[h1,q5u (by show m.length<=_;omega),List.append_nil,hn,<-h2];rfl
def numN(ps:List j2):Nat->List Rat
 |0=>[]
 |n+1=>numN ps n++[(ps.getD n d0).1.1,(ps.getD n d0).1.2.1,(ps.getD n d0).1.2.2,(ps.getD n d0).2]
theorem H5(ps:List j2): ∀n,(numN ps n).length=4*n
 |0=>rfl
 |n+1=>by simp only[numN,q5G,H5 ps n,q5H,q5K];omega
theorem Rm{ps:List j2}{b:Bd}(h: ∀p∈ps,Bnd (.pr qV .rat) b p): ∀n,n<=ps.length-> ∀v∈numN ps n,Bnd .rat (.n b.mx) v
 |0,_,v,hv=>by cases hv
 |n+1,hn,v,hv=>by
  rcases q5N.1 hv with hv|hv
  .exact Rm h n (by omega) v hv
  .have g:=Bnd.pole (h _ (show ps.getD n d0∈ps by rw[z6 (by omega)];exact q6M _))
   simp only[q5O,q5W,or_false]at hv;rcases hv with rfl|rfl|rfl|rfl
   .exact g.1.1
   .exact g.1.2.1
   .exact g.1.2.2
   .exact g.2
theorem RS{a b c:Rat}(h:a<b)(g:b<c):a<c:=by grind
theorem D4{l:List Rat}{x:Rat}{i:Nat}(h:i<l.length):(l++[x]).getD i 0=l.getD i 0:=by
 rw[q5y,List.getElem?_append_left h,<-q5y]
theorem JY{l:List Rat}{x:Rat}:(l++[x]).getD l.length 0=x:=by simp[q5y]
structure DsO (k m:List Rat) (n:Nat):Prop where
 h0:0<m.length
 hf:m.getD 0 0=k.getD 0 0
 hl:m.getD (m.length-1) 0=k.getD (n-1) 0
 hs: ∀i j,i<j->j<m.length->m.getD i 0<m.getD j 0
theorem dsO{k:List Rat}: ∀{n:Nat},0<n->vD k n=true->DsO k (jV k n) n
 |0,h,_=>absurd h (by omega)
 |1,_,_=>⟨by simp[jV],by simp[jV],by simp[jV],λi j h1 h2=>by simp[jV]at h2;omega⟩
 |n+2,_,hs=>by
  have hs0:vD k (n+1)=true:=by rw[vD,q5m]at hs;exact hs.1
  have ih:=dsO (k:=k) (n:=n+1) (by omega) hs0;have hle:=Hi.1 hs (n+1) (by omega) (by omega);rw[show n+1-1=n by omega]at hle;have hl:=ih.hl;rw[show n+1-1=n by omega]at hl;rw[jV];by_cases hc:n+1=0\/k.getD (n+1) 0≠k.getD (n+1-1) 0
  .rw[if_pos hc]
   have hne:k.getD (n+1) 0≠k.getD n 0:=hc.resolve_left (by omega);have hlt:k.getD n 0<k.getD (n+1) 0:=Rat.lt_of_le_of_ne (Rat.not_lt.1 (mt q0X.2 hle)) (Ne.symm hne);have len:(jV k (n+1)++[k.getD (n+1) 0]).length=(jV k (n+1)).length+1:=by simp
   refine⟨by rw[len];omega,by rw[D4 ih.h0];exact ih.hf,by rw[len,Nat.add_sub_cancel,JY];rfl,λi j hij hj=>?_⟩;rw[len]at hj;rcases q6h j (jV k (n+1)).length with h|h
   .rw[D4 (by omega),D4 h];exact ih.hs i j hij h
   .have e:j=(jV k (n+1)).length:=by omega
    subst e;rw[D4 hij,JY];rcases Nat.eq_or_lt_of_le (show i<=(jV k (n+1)).length-1 by omega)with e|e
    .rw[e,hl];exact hlt
    .have:=ih.hs i _ e (by omega)
     rw[hl]at this;exact RS this hlt
  .rw[if_neg hc]
   have heq:k.getD (n+1) 0=k.getD n 0:=Decidable.byContradiction λh=>hc (.inr h)
   exact⟨ih.h0,ih.hf,by rw[hl];show _=k.getD (n+1) 0;rw[heq],ih.hs⟩
theorem Wy{k:List Rat}(h0:0<k.length)(hs:vD k k.length=true): ∀i,i<(dst k).length->(((dst k).getD i 0=k.getD 0 0\/(dst k).getD i 0=k.getD (k.length-1) 0)↔(i=0\/i+1=(dst k).length)):=by
 intro i hi;have d:=dsO h0 hs;constructor
 .rintro(h|h)
  .left
   rcases q69 i with e|e
   .exact e
   .have:=d.hs 0 i e hi;rw[d.hf,<-h]at this;exact absurd this (Rat.lt_irrefl)
  .right
   rcases Nat.eq_or_lt_of_le (show i<=(dst k).length-1 by omega)with e|e
   .have:=d.h0;show i+1=_;omega
   .have:=d.hs i ((jV k k.length).length-1) e (by have:i<(jV k k.length).length:=hi;omega);rw[d.hl,<-h]at this;exact absurd this (Rat.lt_irrefl)
 .rintro(h|h)
  .left;rw[h];exact d.hf
  .right;rw[<-d.hl];congr 1;show i=(dst k).length-1;omega
theorem Wz{k:List Rat}(h0:0<k.length)(hs:vD k k.length=true)(hn: ¬k.getD 0 0=k.getD (k.length-1) 0): ¬(dst k).length<2:=λh=>by
 have d:=dsO h0 hs;have e:(dst k).length-1=0:=by omega
 have hl:=d.hl;have:(jV k k.length).length-1=0:=e;rw[this,d.hf]at hl;exact hn hl
theorem q3B{k:List Rat}{d:Int}(h: ¬(d<1\/6<d))(h2: ¬(k.length:Int)<2*d+2)(h3: ¬40<(k.length:Int) -d-1)(h4:vD k k.length=true)(h5:k.getD 0 0=k.getD (k.length-1) 0):5=qF k d:=by
 cases ho:okN k d (dst k).length with
 |false=>exact Al h h2 h3 h4 ho
 |true=>
  refine U8 h h2 h3 h4 ho (Nat.lt_of_not_le λhc=>?_);have dd:=dsO (by omega) h4;have:=dd.hs 0 ((dst k).length-1) (by omega) (by show _<(dst k).length;omega);rw[dd.hf,show(jV k k.length).getD ((dst k).length-1) 0=k.getD (k.length-1) 0 from dd.hl,h5]at this;exact absurd this (Rat.lt_irrefl)
section
theorem Ui{x y:Rat}(h:y≠0):x/y*y=x:=Rat.div_mul_cancel h
def HZ(m:Nat)(t:Rat):Prop:= ∃z:Int,t*2=(z:Rat)/\z.natAbs<=m
theorem HZ.bnd{t:Rat}(h:HZ 40 t):Bnd .rat (.n 6) t:=by
 obtain⟨z,a,b⟩:=h;have e2:((2:Int):Rat)=2:=rfl
 have e:t=(z:Rat)/((2:Int):Rat):=by
  have:=Ui (x:=(z:Rat)) (y:=((2:Int):Rat)) (by rw[e2];decide);rw[e2]at this⊢;generalize(z:Rat)/2=u at*;grind
 rw[e];exact qQ (CI (n:=z) (d:=2) (b:=40) (c:=2) b (by decide)) (by decide)
theorem HZ.one{m:Nat}{t:Rat}(h:HZ m t):HZ (m+2) (t+((1:Int):Rat)):=by
 obtain⟨z,a,b⟩:=h;refine⟨z+2,?_,by omega⟩;have e1:((1:Int):Rat)=1:=rfl;have e2:((2:Int):Rat)=2:=rfl;rw[Rat.intCast_add,<-a,e1,e2];grind
section
variable {d:Int} {k:List Rat} {t:Rat} {u:jT}
end
end
abbrev qu:Type:=Int×Int×List Rat×List Rat×List (List j2)
abbrev qH:Ty:= .pr (.int .i64) (.pr (.int .i64) (.pr (.sl .rat) (.pr (.sl .rat) (.sl (.sl qi)))))
section
def PosS(s:qu):Prop:= ∀l∈s.2.2.2.2,∀p∈l,0<p.2
def vC(s:qu)(l:List j2):Prop:=((l.length:Nat):Int)=(s.2.2.2.1.length:Int) -s.2.1-1
instance(s:qu)(l:List j2):Decidable (vC s l):=by unfold vC;infer_instance
def rowB(s:qu):Nat->Bool
 |0=>true
 |n+1=>rowB s n&&decide (vC s (s.2.2.2.2.getD n []))
def jj(s:qu):Int:=
 if qF s.2.2.1 s.1≠0 then qF s.2.2.1 s.1 else if qF s.2.2.2.1 s.2.1≠0 then qF s.2.2.2.1 s.2.1 else
 if((s.2.2.2.2.length:Nat):Int)≠(s.2.2.1.length:Int) -s.1-1 then 1 else if rowB s s.2.2.2.2.length=false then 1 else 0
theorem LB(s:qu):(jj s).natAbs<=8:=by
 have h1:=HJ s.2.2.1 s.1;have h2:=HJ s.2.2.2.1 s.2.1;unfold jj;split
 .omega
 split
 .omega
 split
 .decide
 split<;>decide
section
variable {s:qu}
theorem TD{n:Nat}(h:rowB s n=true)(k:vC s (s.2.2.2.2.getD n [])):rowB s (n+1)=true:=by rw[rowB,h,decide_eq_true k];rfl
theorem XQ{n m:Nat}(k: ¬vC s (s.2.2.2.2.getD n []))(hm:n<m):rowB s m=false:=by
 induction m with
 |zero=>omega
 |succ m ih=>
  by_cases e:n=m
  .subst e;rw[rowB,decide_eq_false k,Bool.and_false]
  .rw[rowB,ih (by omega),Bool.false_and]
theorem Ua(h:qF s.2.2.1 s.1≠0):qF s.2.2.1 s.1=jj s:=by rw[jj,if_pos h]
theorem Ub(h: ¬qF s.2.2.1 s.1≠0)(h2:qF s.2.2.2.1 s.2.1≠0):qF s.2.2.2.1 s.2.1=jj s:=by rw[jj,if_neg h,if_pos h2]
theorem Uc(h: ¬qF s.2.2.1 s.1≠0)(h2: ¬qF s.2.2.2.1 s.2.1≠0)(h3:((s.2.2.2.2.length:Nat):Int)≠(s.2.2.1.length:Int) -s.1-1):1=jj s:=by rw[jj,if_neg h,if_neg h2,if_pos h3]
theorem Ud(h: ¬qF s.2.2.1 s.1≠0)(h2: ¬qF s.2.2.2.1 s.2.1≠0)(h3: ¬((s.2.2.2.2.length:Nat):Int)≠(s.2.2.1.length:Int) -s.1-1)(h4:rowB s s.2.2.2.2.length=false):1=jj s:=by rw[jj,if_neg h,if_neg h2,if_neg h3,if_pos h4]
theorem OH(h: ¬qF s.2.2.1 s.1≠0)(h2: ¬qF s.2.2.2.1 s.2.1≠0)(h3: ¬((s.2.2.2.2.length:Nat):Int)≠(s.2.2.1.length:Int) -s.1-1)(h4:rowB s s.2.2.2.2.length=true):0=jj s:=by rw[jj,if_neg h,if_neg h2,if_neg h3,if_neg (by rw[h4];simp)]
theorem gtD{α:Type}{l:List α}{i:Nat}{d:α}(h:i<l.length):l.getD i d=l[i]:=by rw[q5y,q5C h];rfl
theorem posS{i j:Nat}(h:PosS s)(hi:i<s.2.2.2.2.length)(hj:j<(s.2.2.2.2.getD i []).length): ¬jf ((s.2.2.2.2.getD i []).getD j ((0,0,0),0)).2<=0:=by
 have e1:s.2.2.2.2.getD i []=s.2.2.2.2[i]:=gtD hi;have e2:(s.2.2.2.2.getD i []).getD j ((0,0,0),0)=(s.2.2.2.2.getD i [])[j]:=gtD hj;have h1:s.2.2.2.2.getD i []∈s.2.2.2.2:=by rw[e1];exact q6M _
 have h2:(s.2.2.2.2.getD i []).getD j ((0,0,0),0)∈s.2.2.2.2.getD i []:=by rw[e2];exact q6M _
 have h3:=h _ h1 _ h2;intro hs;generalize((s.2.2.2.2.getD i []).getD j ((0,0,0),0)).2=x at hs h3;unfold jf at hs;split at hs
 .rename_i e;have e0:=Ae e;subst e0;exact absurd h3 (by decide)
 .split at hs
  .rename_i e;have:=Rat.num_nonneg.2 (q6P h3);omega
  .exact absurd hs (by decide)
theorem Gm{l:List (List j2)}{m:Nat}(h: ∀x∈l,x.length<=m)(i:Nat):(l.getD i []).length<=m:=by
 by_cases hi:i<l.length
 .have e1:l.getD i []=l[i]:=gtD hi
  rw[e1];exact h _ (q6M _)
 .rw[show l.getD i []=[] by simp[List.getD,hi]];exact q6A _
end
def lenS(l:List (List Rat)):Nat->Nat
 |0=>0
 |n+1=>lenS l n+(l.getD n []).length
def catN(l:List (List Rat)):Nat->List Rat
 |0=>[]
 |n+1=>catN l n++l.getD n []
theorem Ef(l:List (List Rat)): ∀n,(catN l n).length=lenS l n
 |0=>rfl
 |n+1=>by rw[catN,q5G,Ef l n];rfl
theorem q0O{l:List (List Rat)}{b:Bd}(h:Bnd (.sl (.sl .rat)) b l): ∀v∈catN l l.length,Bnd .rat (.n b.mx) v:=by
 have key: ∀n,n<=l.length-> ∀v∈catN l n,Bnd .rat (.n b.mx) v:=by
  intro n
  induction n with
  |zero=>intro _ v hv;cases hv
  |succ n ih=>
   intro hn v hv;rcases q5N.1 hv with hv|hv
   .exact ih (by omega) v hv
   .have e:l.getD n []=l[n]:=gtD (by omega)
    have h1:=h.sl.2 (l.getD n []) (by rw[e];exact q6M _);have h2:=h1.slm.2 v hv;have:=b.e_mx;exact qQ h2 (by omega)
 exact key _ (q6d _)
theorem P7{a c:List Rat}(h:a.length+c.length<=64): ∀i,lenS [a,c] i<=64
 |0=>q6A _
 |1=>by simp[lenS];omega
 |2=>by simp[lenS];omega
 |n+3=>by
  have:=P7 h (n+2);rw[lenS];simpa using this
def SmS(s:qu):Prop:=s.2.2.2.2.length<=32/\ ∀i,(s.2.2.2.2.getD i []).length<=32
def numR(s:qu):Nat->List Rat
 |0=>catN [s.2.2.1,s.2.2.2.1] 2
 |n+1=>numR s n++numN (s.2.2.2.2.getD n []) (s.2.2.2.2.getD n []).length
theorem H7{s:qu}(h:SmS s)(hk:s.2.2.1.length+s.2.2.2.1.length<=64): ∀n,(numR s n).length<=64+128*n
 |0=>by rw[numR,Ef];exact P7 hk 2
 |n+1=>by
  have h1:=H7 h hk n;have h2:=h.2 n;rw[numR,q5G,H5];omega
theorem q2b{s:qu}(hk:s.2.2.1.length+s.2.2.2.1.length<=64)(h:SmS s):(numR s s.2.2.2.2.length).length<=4194304:=by
 have h1:=H7 h hk s.2.2.2.2.length;have:=h.1;omega
theorem Rn{s:qu}{b:Bd}(h:Bnd qH b s): ∀n,∀v∈numR s n,Bnd .rat (.n b.mx) v:=by
 have h1:=h.pr.2.pr.2.pr;have h2:=h1.1.slm;have h3:=h1.2.pr.1.slm;have h4:=h1.2.pr.2.sl;have m1:=b.r_mx;have m2:=b.r.r_mx;have m3:=b.r.r.l_mx;have m4:=b.r.r.r_mx;have m5:=b.r.r.r.l_mx;have m6:=b.r.r.r.r_mx;have m7:=b.r.r.r.r.e_mx;have m8:=b.r.r.r.r.e.e_mx
 intro n
 induction n with
 |zero=>
  intro v hv;rcases q5N.1 hv with hv|hv
  .rcases q5N.1 hv with hv|hv
   .cases hv
   .exact qQ (h2.2 v hv) (by omega)
  .exact qQ (h3.2 v hv) (by omega)
 |succ n ih=>
  intro v hv;rcases q5N.1 hv with hv|hv
  .exact ih v hv
  .by_cases hn:n<s.2.2.2.2.length
   .have e:s.2.2.2.2.getD n []=s.2.2.2.2[n]:=gtD hn
    have h5:=h4.2 (s.2.2.2.2.getD n []) (by rw[e];exact q6M _);exact qQ (Rm h5.sl.2 _ (q6d _) v hv) (by omega)
   .rw[show s.2.2.2.2.getD n []=[] by simp[List.getD,hn]]at hv;cases hv
theorem Ro{s:qu}{b:Bd}(h:Bnd qH b s)(hb:b.mx<=2047:=by decide)(hf:0<=fidx (λj=>decide (2048<vp ((numR s s.2.2.2.2.length).getD j 0))) 0 (numR s s.2.2.2.2.length).length):False:=by
 obtain⟨j,_,h2,h3⟩:=FU.1 hf;have h3:=of_decide_eq_true h3;have:=GM (zY (Rn h s.2.2.2.2.length) j);omega
def rcS(s:qu):Bool:=decide (((s.2.2.2.2.length:Nat):Int)=(s.2.2.1.length:Int) -s.1-1)&&!decide (0<=fidx (λj=>decide (¬vC s (s.2.2.2.2.getD j []))) 0 s.2.2.2.2.length)
theorem EJ{s:qu}: ∀{n:Nat},rowB s n=true↔ ∀j,j<n->vC s (s.2.2.2.2.getD j [])
 |0=>⟨λ_ j h=>by omega,λ_=>rfl⟩
 |n+1=>by
  rw[rowB,q5m,EJ (n:=n),decide_eq_true_iff]
  exact⟨λ⟨h1,h2⟩ j hj=>by
   by_cases e:j=n
   .rw[e];exact h2
   .exact h1 j (by omega),λh=>⟨λj hj=>h j (by omega),h n (by omega)⟩⟩
theorem Jn{s:qu}:rcS s=true↔((s.2.2.2.2.length:Nat):Int)=(s.2.2.1.length:Int) -s.1-1/\rowB s s.2.2.2.2.length=true:=by
 unfold rcS;rw[q5m,decide_eq_true_iff,EJ,q5o,decide_eq_false_iff_not,FU];refine and_congr_right λ_=>⟨λh j hj=>Classical.byContradiction λhw=>h ⟨j,q6A _,by omega,decide_eq_true hw⟩,λh⟨j,_,h2,h3⟩=>of_decide_eq_true h3 (h j (by omega))⟩
theorem q4V{s:qu}(h:((s.2.2.2.2.length:Nat):Int)=(s.2.2.1.length:Int) -s.1-1):(!decide (0<=fidx (λj=>decide (¬vC s (s.2.2.2.2.getD j []))) 0 s.2.2.2.2.length))=rcS s:=by
 rw[rcS,decide_eq_true h,Bool.true_and]
theorem q4W{s:qu}(h: ¬((s.2.2.2.2.length:Nat):Int)=(s.2.2.1.length:Int) -s.1-1):false=rcS s:=by
 rw[rcS,decide_eq_false h,Bool.false_and]
section
variable {s:qu}
theorem q3C(h: ¬qF s.2.2.1 s.1≠0)(h2: ¬qF s.2.2.2.1 s.2.1≠0)(h3:(!(rcS s))=true):1=jj s:=by
 by_cases e:((s.2.2.2.2.length:Nat):Int)=(s.2.2.1.length:Int) -s.1-1
 .refine Ud h h2 (by simpa using e) ?_
  cases hb:rowB s s.2.2.2.2.length with
  |false=>rfl
  |true=>rw[Jn.2 ⟨e,hb⟩]at h3;cases h3
 .exact Uc h h2 e
theorem q3D(h: ¬qF s.2.2.1 s.1≠0)(h2: ¬qF s.2.2.2.1 s.2.1≠0)(h3: ¬(!(rcS s))=true):0=jj s:=by
 obtain⟨e,hb⟩:=Jn.1 (by simpa using h3);exact OH h h2 (by simpa using e) hb
theorem posW{i:Nat}(h:PosS s)(hi:i<s.2.2.2.2.length)(hf:0<=fidx (λj=>decide (jf ((s.2.2.2.2.getD i []).getD j ((0,(0,0)),0)).2<=0)) 0 (s.2.2.2.2.getD i []).length):False:=by
 obtain⟨j,_,h2,h3⟩:=FU.1 hf;exact posS h hi (by omega) (of_decide_eq_true h3)
end
end
section
abbrev bSd:Bd:= .p (.n 6) (.p (.n 6) (.p (.s 16 (.n 6)) (.p (.s 16 (.n 6)) (.s 16 (.s 16 (j5 16))))))
section
variable {g inner:Int} {s u v:jT} {l:List (List j2)} {r:List j2} {i j:Nat}
end
section
variable {g inner:Int} (s:jT) (h1:1<=g) (h5:g<=5) (h0:0<=inner) (h4:inner<=4)
include h1 h5 h0 h4
omit h1 h5 h0 h4 in
omit h1 h5 h0 h4 in
end
end
section
def colP(k:Int)(x:qu):Nat->List j2
 |0=>[]
 |n+1=>colP k x n++[(x.2.2.2.2.getD n []).getD (if k=0 then 0 else(x.2.2.2.2.getD n []).length-1) ((0,(0,0)),0)]
def ju(x:qu)(k:Int):j7:=
 if k=1 then(x.2.1,x.2.2.2.1,x.2.2.2.2.getD (x.2.2.2.2.length-1) [])else if k=3 then(x.2.1,x.2.2.2.1,x.2.2.2.2.getD 0 [])else(x.1,x.2.2.1,colP k x x.2.2.2.2.length)
theorem CA(k:Int)(x:qu): ∀n,(colP k x n).length=n
 |0=>rfl
 |n+1=>by rw[colP,q5G,CA k x n];rfl
structure SurfOk (x:qu):Prop where
 b:Bnd qH bSd x
 p:PosS x
 r:0<x.2.2.2.2.length
 q: ∀i,i<x.2.2.2.2.length->0<(x.2.2.2.2.getD i []).length
section
variable {x:qu} (h:SurfOk x)
include h
theorem SurfOk.tail:SurfOk (x.1,x.2.1,x.2.2.1,x.2.2.2.1.drop 1,x.2.2.2.2):=by
 refine⟨⟨h.b.1,h.b.2.1,h.b.2.2.1,⟨?_,λy hy=>h.b.2.2.2.1.2 y (q6V hy)⟩,h.b.2.2.2.2⟩,h.p,h.r,h.q⟩;have:=h.b.2.2.2.1.1;show(x.2.2.2.1.drop 1).length<=16;rw[q5I];omega
end
section
variable {x:qu} {k:Int} {l:List j2} {i:Nat}
theorem RZ(h:k=1):(x.2.1,x.2.2.2.1,x.2.2.2.2.getD (x.2.2.2.2.length-1) [])=ju x k:=by rw[ju,if_pos h]
theorem S0(h: ¬k=1)(h3:k=3):(x.2.1,x.2.2.2.1,x.2.2.2.2.getD 0 [])=ju x k:=by rw[ju,if_neg h,if_pos h3]
theorem MB(h: ¬k=1)(h3: ¬k=3)(hl:l=colP k x i)(hi:i=x.2.2.2.2.length):(x.1,x.2.2.1,l)=ju x k:=by rw[ju,if_neg h,if_neg h3,hl,hi]
theorem Qj(h:l=colP k x i)(hk:k=0):l++[(x.2.2.2.2.getD i []).getD 0 ((0,(0,0)),0)]=colP k x (i+1):=by rw[colP,if_pos hk,h]
theorem Qk(h:l=colP k x i)(hk: ¬k=0):l++[(x.2.2.2.2.getD i []).getD ((x.2.2.2.2.getD i []).length-1) ((0,(0,0)),0)]=colP k x (i+1):=by rw[colP,if_neg hk,h]
end
end
section
abbrev jz:Type:=qu×ByteArray
abbrev q5d:Ty:= .pr qH .str
abbrev Diag:Type:=Int×Int×Int×Int×Int
abbrev Do:Ty:= .pr (.int .i64) (.pr (.int .i64) (.pr (.int .i64) (.pr (.int .i64) (.int .i64))))
abbrev Bord:Type:=j7×List Rat×Int×Int×Bool
abbrev V8:Ty:= .pr vj (.pr (.sl .rat) (.pr (.int .i64) (.pr (.int .i64) .bool)))
abbrev jt:j2:=((0,0,0),0)
def q5g(k:List Rat)(i:Nat):Rat:=(k.getD i 0-k.getD 0 0)/(k.getD (k.length-1) 0-k.getD 0 0)
def wo(k:List Rat):Nat->List Rat
 |0=>[]
 |n+1=>wo k n++[q5g k n]
def jK(k:List Rat):List Rat:=wo k k.length
theorem Dr(k:List Rat): ∀n,(wo k n).length=n
 |0=>rfl
 |n+1=>by rw[wo,q5G,Dr k n];rfl
theorem Oh{k l:List Rat}{i:Nat}(h:l=wo k i):l++[(k.getD i 0-k.getD 0 0)/(k.getD (k.length-1) 0-k.getD 0 0)]=wo k (i+1):=by rw[h];rfl
theorem MG{k l:List Rat}{i:Nat}(h:l=wo k i)(e:i=k.length):l=jK k:=by rw[h,e];rfl
theorem DP{m:Nat}{k:List Rat}(h: ∀x∈k,Bnd .rat (.n m) x)(i:Nat):Bnd .rat (.n m) (k.getD i 0):=zY h i
theorem Og{m:Nat}{k:List Rat}(h: ∀x∈k,Bnd .rat (.n m) x): ∀n,∀y∈wo k n,Bnd .rat (.n (4*m+2)) y
 |0,y,hy=>by cases hy
 |n+1,y,hy=>by
  rw[wo]at hy;rcases q5N.1 hy with hy|hy
  .exact Og h n y hy
  .rw[q5U.1 hy]
   refine jL (Cm (A8 (DP h n) (DP h 0)) (A8 (DP h (k.length-1)) (DP h 0))) ?_;show(m+m+1)+(m+m+1)<=4*m+2;omega
theorem V2{b:Bd}{k:List Rat}(h:Bnd (.sl .rat) b k): ∀x∈k,Bnd .rat (.n b.mx) x:=λx hx=>jL (h.sl.2 x hx) (q6e (Bd.nb_mx _) (mx_e b))
theorem Of{b:Bd}{k:List Rat}(h:Bnd (.sl .rat) b k):Bnd (.sl .rat) (.s b.len (.n (4*b.mx+2))) (jK k):=
 ⟨by rw[jK,Dr];exact h.sl.1,Og (V2 h) _⟩
def pntN(l:List j2):Nat->Bool
 |0=>true
 |n+1=>pntN l n&&decide ((l.getD n jt).1=(l.getD 0 jt).1)
def pntC(c:j7):Bool:=pntN c.2.2 c.2.2.length
theorem RA{l:List j2}{i:Nat}(h:pntN l i=true)(e:(l.getD i jt).1=(l.getD 0 jt).1):pntN l (i+1)=true:=by rw[pntN,h,decide_eq_true e];rfl
theorem Rz{l:List j2}{i:Nat}(e: ¬(l.getD i jt).1=(l.getD 0 jt).1): ∀n,i<n->pntN l n=false
 |0,h=>by omega
 |n+1,h=>by
  rw[pntN];by_cases hn:i=n
  .subst hn;rw[decide_eq_false e,Bool.and_false]
  .rw[Rz e n (by omega),Bool.false_and]
theorem RB{c:j7}{i:Nat}(hi:i<c.2.2.length)(e: ¬(c.2.2.getD i jt).1=(c.2.2.getD 0 jt).1):false=pntC c:=(Rz e _ hi).symm
theorem NV{c:j7}{i:Nat}(h:pntN c.2.2 i=true)(hi:i=c.2.2.length):true=pntC c:=by rw[pntC,<-hi];exact h.symm
def sqd(p q:List j2)(i:Nat):Rat:=dotQ (subV (p.getD i jt).1 (q.getD i jt).1) (subV (p.getD i jt).1 (q.getD i jt).1)
def mxN(p q:List j2):Nat->Rat
 |0=>0
 |n+1=>maxQ (mxN p q n) (sqd p q n)
def wtB(p q:List j2)(i:Nat):Bool:=decide ((p.getD i jt).2*(q.getD 0 jt).2=(q.getD i jt).2*(p.getD 0 jt).2)
def wtsN(p q:List j2):Nat->Bool
 |0=>true
 |n+1=>wtsN p q n&&wtB p q n
def wIx(p q:List j2):Nat->Nat
 |0=>0
 |n+1=>if wtsN p q n=true then(if wtB p q n=true then n+1 else n)else wIx p q n
def jW(a b:Bord)(sq:Rat):Rat×Bool:=
 let k:=if a.2.2.2.2=b.2.2.2.2 then jK (jk b.1).2.1 else b.2.1
 let c:j7:=if a.2.2.2.2=b.2.2.2.2 then jk b.1 else b.1
 if a.1.1≠c.1\/a.1.2.2.length≠c.2.2.length\/a.2.1.length≠k.length then(0,false)else
 if a.2.1≠k then(0,false)else
 if wtsN a.1.2.2 c.2.2 a.1.2.2.length=true then(mxN a.1.2.2 c.2.2 a.1.2.2.length,decide (mxN a.1.2.2 c.2.2 a.1.2.2.length<=sq))else
 (mxN a.1.2.2 c.2.2 (wIx a.1.2.2 c.2.2 a.1.2.2.length+1),false)
theorem NS{c:j7}(h:0<c.2.1.length):0<(jk c).2.1.length:=by show 0<(c.2.1.reverse.map _).length;rw[q5J,List.length_reverse];exact h
theorem DU{j n:Nat}(h: ¬j<n)(k:j<=n):j=n:=by omega
theorem cq0{x y:Rat}:qL x y=0↔x=y:=by unfold qL;(repeat' split)<;>grind
def fitW(a:Bord)(c:j7)(k:List Rat)(sq:Rat):Rat×Bool:=
 if a.1.1≠c.1\/a.1.2.2.length≠c.2.2.length\/a.2.1.length≠k.length then(0,false)else
 if a.2.1≠k then(0,false)else
 if wtsN a.1.2.2 c.2.2 a.1.2.2.length=true then(mxN a.1.2.2 c.2.2 a.1.2.2.length,decide (mxN a.1.2.2 c.2.2 a.1.2.2.length<=sq))else
 (mxN a.1.2.2 c.2.2 (wIx a.1.2.2 c.2.2 a.1.2.2.length+1),false)
theorem wz{a b:Bord}{q:Rat}(h:a.2.2.2.2=b.2.2.2.2):jW a b q=fitW a (jk b.1) (jK (jk b.1).2.1) q:=by unfold jW fitW;simp only[if_pos h]
theorem wA{a b:Bord}{q:Rat}(h: ¬a.2.2.2.2=b.2.2.2.2):jW a b q=fitW a b.1 b.2.1 q:=by unfold jW fitW;simp only[if_neg h]
section
variable {a:Bord} {c:j7} {k:List Rat} {q m:Rat} {i j:Nat}
theorem fw_1(h:a.1.1≠c.1\/a.1.2.2.length≠c.2.2.length\/a.2.1.length≠k.length):((0,false):Rat×Bool)=fitW a c k q:=by rw[fitW,if_pos h]
theorem fw_2(h1: ¬a.1.1≠c.1)(h2: ¬a.1.2.2.length≠c.2.2.length)(h3: ¬a.2.1.length≠k.length)(h4:qL (a.2.1.getD i 0) (k.getD i 0)≠0):((0,false):Rat×Bool)=fitW a c k q:=by
 rw[fitW,if_neg (by simp only[not_or];exact⟨h1,h2,h3⟩),if_pos];intro e;rw[e]at h4;exact h4 (cq0.2 rfl)
theorem N0{x y:List j2}(h:wtsN x y j=true)(e:(x.getD j jt).2*(y.getD 0 jt).2=(y.getD j jt).2*(x.getD 0 jt).2):wtsN x y (j+1)=true:=by rw[wtsN,h,wtB,decide_eq_true e];rfl
theorem KP{x y:List j2}(h:m=mxN x y j):maxQ m (dotQ (subV (x.getD j jt).1 (y.getD j jt).1) (subV (x.getD j jt).1 (y.getD j jt).1))=mxN x y (j+1):=by rw[h];rfl
theorem N1{x y:List j2}(h:wtsN x y j=true)(e:wtB x y j=false): ∀n,j<n->wtsN x y n=false/\wIx x y n=j
 |0,hn=>by omega
 |n+1,hn=>by
  rw[wtsN,wIx];by_cases hj:j=n
  .subst hj;simp[h,e]
  .have:=N1 h e n (by omega)
   simp[this.1,this.2]
theorem fw_3(h1: ¬a.1.1≠c.1)(h2: ¬a.1.2.2.length≠c.2.2.length)(h3: ¬a.2.1.length≠k.length)(hI:EqI a.2.1 k i)(hi: ¬i<a.2.1.length)(hm:m=mxN a.1.2.2 c.2.2 j)(hw:wtsN a.1.2.2 c.2.2 j=true)(hj:j<a.1.2.2.length)(h4:qL ((a.1.2.2.getD j jt).2*(c.2.2.getD 0 jt).2) ((c.2.2.getD j jt).2*(a.1.2.2.getD 0 jt).2)≠0):
  (maxQ m (dotQ (subV (a.1.2.2.getD j jt).1 (c.2.2.getD j jt).1) (subV (a.1.2.2.getD j jt).1 (c.2.2.getD j jt).1)),false)=fitW a c k q:=by
 have hb:wtB a.1.2.2 c.2.2 j=false:=decide_eq_false λe=>h4 (cq0.2 e)
 obtain⟨e1,e2⟩:=N1 hw hb _ hj;rw[fitW,if_neg (by simp only[not_or];exact⟨h1,h2,h3⟩),if_neg (λe=>e (hI.fin hi)),if_neg (by rw[e1];decide),e2,KP hm]
theorem fw_4(h1: ¬a.1.1≠c.1)(h2: ¬a.1.2.2.length≠c.2.2.length)(h3: ¬a.2.1.length≠k.length)(hI:EqI a.2.1 k i)(hi: ¬i<a.2.1.length)(hm:m=mxN a.1.2.2 c.2.2 j)(hw:wtsN a.1.2.2 c.2.2 j=true)(hj:j=a.1.2.2.length):
  (m,decide (qL m q<=0))=fitW a c k q:=by
 subst hj;rw[fitW,if_neg (by simp only[not_or];exact⟨h1,h2,h3⟩),if_neg (λe=>e (hI.fin hi)),if_pos hw,hm];simp only[Nu]
end
theorem z_b(m:Nat):Bnd qi (j5 m) jt:=⟨⟨qK _,qK _,qK _⟩,qK _⟩
theorem Dh{m:Nat}{l:List j2}(h: ∀p∈l,Bnd qi (j5 m) p)(i:Nat):Bnd qi (j5 m) (l.getD i jt):=by
 by_cases hi:i<l.length
 .rw[gtD hi];exact h _ (q6M _)
 .rw[q5y,q5D (by omega)];exact z_b m
theorem Ie{m:Nat}{p q:List j2}(hp: ∀u∈p,Bnd qi (j5 m) u)(hq: ∀u∈q,Bnd qi (j5 m) u): ∀n,Bnd .rat (.n (12*m+8)) (mxN p q n)
 |0=>qK _
 |n+1=>by
  have h1:=Fu (b:=bV3 m) (c:=bV3 m) (Dh hp n).1 (Dh hq n).1;refine jL (CJ (Ie hp hq n) (DM h1 h1)) ?_;simp only[Bd.nb,Bd.mx];omega
theorem QB{m:Nat}{a:Bord}{c:j7}{k:List Rat}{q:Rat}(ha: ∀u∈a.1.2.2,Bnd qi (j5 m) u)(hc: ∀u∈c.2.2,Bnd qi (j5 m) u):Bnd .rat (.n (12*m+8)) (fitW a c k q).1:=by
 unfold fitW;split
 .exact qK _
 split
 .exact qK _
 split
 .exact Ie ha hc _
 .exact Ie ha hc _
theorem q1h{m:Nat}{a b:Bord}{q:Rat}(ha: ∀u∈a.1.2.2,Bnd qi (j5 m) u)(hb: ∀u∈b.1.2.2,Bnd qi (j5 m) u):Bnd .rat (.n (12*m+8)) (jW a b q).1:=by
 by_cases h:a.2.2.2.2=b.2.2.2.2
 .rw[wz h];exact QB ha λu hu=>hb u (List.mem_reverse.1 hu)
 .rw[wA h];exact QB ha hb
theorem Mm{b:Bd}{p:j2}{m:Nat}(h:Bnd qi b p)(hm:b.mx<=m):Bnd qi (j5 m) p:=by
 have h1:=h.pr;have h2:=h1.1.v3;have:=b.l_mx;have:=b.r_mx
 have f: ∀{x:Rat}{k:Nat},Bnd .rat (.n k) x->k<=m->Bnd .rat (.n m) x:=λh hk=>jL h hk
 exact⟨⟨f h2.1 (by omega),f h2.2.1 (by omega),f h2.2.2 (by omega)⟩,jL h1.2 (q6e (Bd.nb_mx _) (by omega))⟩
theorem CQ{b:Bd}{l:List j2}{m:Nat}(h:Bnd (.sl qi) b l)(hm:b.mx<=m): ∀u∈l,Bnd qi (j5 m) u:=λu hu=>Mm (h.sl.2 u hu) (q6e (mx_e b) hm)
theorem q1i{bb:List Bd}{a b:Bord}{q:Rat}(hx:Bnds [V8,V8,.rat] bb (a,b,q)):Bnd .rat (.n (12*max (b0 bb).l.r.r.mx (b1 bb).l.r.r.mx+8)) (jW a b q).1:=
 q1h (CQ (Bnds.h3 hx).1.pr.1.pr.2.pr.2 (q6Q _ _)) (CQ (Bnds.h3 hx).2.1.pr.1.pr.2.pr.2 (q6R _ _))
def vK(x y:j7)(sq:Rat):Rat×Bool:=
 if x.1=y.1/\x.2.2.length=y.2.2.length/\jK x.2.1=jK y.2.1/\wtsN x.2.2 y.2.2 x.2.2.length=true then(mxN x.2.2 y.2.2 x.2.2.length,decide (mxN x.2.2 y.2.2 x.2.2.length<=sq))else(0,false)
theorem SM{a b:Bord}{sq:Rat}(ha:a.2.1=jK a.1.2.1)(hb:b.2.1=jK b.1.2.1):
  (jW a b sq).2=(vK a.1 (if a.2.2.2.2=b.2.2.2.2 then jk b.1 else b.1) sq).2/\((jW a b sq).2=true->(jW a b sq).1=(vK a.1 (if a.2.2.2.2=b.2.2.2.2 then jk b.1 else b.1) sq).1):=by
 have hk:(if a.2.2.2.2=b.2.2.2.2 then jK (jk b.1).2.1 else b.2.1)=jK (if a.2.2.2.2=b.2.2.2.2 then jk b.1 else b.1:j7).2.1:=by
  split
  .rfl
  .exact hb
 unfold jW vK;simp only[hk,ha];generalize(if a.2.2.2.2=b.2.2.2.2 then jk b.1 else b.1:j7)=c;by_cases h1:a.1.1=c.1
 .by_cases h2:a.1.2.2.length=c.2.2.length
  .by_cases h3:jK a.1.2.1=jK c.2.1
   .by_cases h4:wtsN a.1.2.2 c.2.2 a.1.2.2.length=true
    .simp[h1,<-h2,h3,h4]
    .simp[h1,<-h2,h3,h4]
   .by_cases h5:(jK a.1.2.1).length=(jK c.2.1).length<;>simp[h1,<-h2,h3,h5]
  .simp[h1,h2]
 .simp[h1]
def bcur(P:List jz)(i:Nat):j7:=ju (P.getD (i/4) ((0,0,[],[],[]),.empty)).1 ((i%4:Nat):Int)
def bord(P:List jz)(i:Nat):Bord:=(bcur P i,jK (bcur P i).2.1,((i/4:Nat):Int),((i%4:Nat):Int),decide (((i%4:Nat):Int)<2))
def w9(P:List jz):Nat->List Bord
 |0=>[]
 |n+1=>w9 P n++[bord P n]
theorem Aa(P:List jz): ∀n,(w9 P n).length=n
 |0=>rfl
 |n+1=>by rw[w9,q5G,Aa P n];rfl
theorem Lh(P:List jz): ∀n i,i<n-> ∀d,(w9 P n).getD i d=bord P i
 |0,i,h,d=>by omega
 |n+1,i,h,d=>by
  rw[w9];by_cases hi:i<n
  .rw[q5y,List.getElem?_append_left (by rw[Aa];exact hi),<-q5y,Lh P n i hi]
  .have:i=n:=by omega
   subst this;rw[q5y,List.getElem?_append_right (by rw[Aa];exact q6d _),Aa,Nat.sub_self];rfl
def KN(i k:Nat)(y:j7):j7:=if(decide (((i%4:Nat):Int)<2))=(decide (((k%4:Nat):Int)<2))then jk y else y
def fitI(P:List jz)(sq:Rat)(i k:Nat):Rat×Bool:=vK (bcur P i) (KN i k (bcur P k)) sq
def inN(P:List jz)(sq:Rat)(i:Nat)(m:Rat):Nat->Int×Rat
 |0=>(0,m)
 |k+1=>if(fitI P sq i k).2=true/\i≠k then((inN P sq i m k).1+1,maxQ (inN P sq i m k).2 (fitI P sq i k).1)else inN P sq i m k
theorem Rh:Int.natAbs (-1)<=1:=by decide
def wrg(e:Int)(p s:Int):Diag:=(e,-1,p,-1,s)
def jU(P:List jz)(sq:Rat):Nat->List Diag×Rat
 |0=>([],0)
 |i+1=>if pntC (bcur P i)=true then jU P sq i else
  (if(inN P sq i (jU P sq i).2 (4*P.length)).1≠1 then(jU P sq i).1++[wrg 30 ((i/4:Nat):Int) ((i%4:Nat):Int)]else(jU P sq i).1,(inN P sq i (jU P sq i).2 (4*P.length)).2)
def vx(P:List jz):Nat->List Diag
 |0=>[]
 |i+1=>if jj (P.getD i ((0,0,[],[],[]),.empty)).1≠0 then vx P i++[wrg (jj (P.getD i ((0,0,[],[],[]),.empty)).1) i (-1)]else vx P i
def jI(P:List jz)(tol:Rat):List Diag×Rat:=if 0<(vx P P.length).length then(vx P P.length,0)else jU P (tol*tol) (4*P.length)
end
section
abbrev bSfP:Bd:= .p (.n 8) (.p (.n 8) (.p (.s 16 (.n 256)) (.p (.s 16 (.n 256)) (.s 16 (.s 16 (j5 1600))))))
abbrev bCrP:Bd:= .p (.n 8) (.p (.s 16 (.n 256)) (.s 16 (j5 1600)))
abbrev zPan:jz:=((0,0,[],[],[]),.empty)
structure SurfP (x:qu):Prop where
 b:Bnd qH bSfP x
 p:PosS x
 r:0<x.2.2.2.2.length
 q: ∀i,i<x.2.2.2.2.length->0<(x.2.2.2.2.getD i []).length
 ku:0<x.2.2.1.length
 kv:0<x.2.2.2.1.length
section
variable {x:qu} (h:SurfP x)
include h
theorem SurfP.rl:x.2.2.2.2.length<=16:=h.b.2.2.2.2.1
theorem SurfP.ql(i:Nat):(x.2.2.2.2.getD i []).length<=16:=Gm (λl hl=>(h.b.2.2.2.2.2 l hl).1) i
theorem SurfP.k:x.2.2.1.length+x.2.2.2.1.length<=64:=by
 have h1:=h.b.2.2.1.1;have h2:=h.b.2.2.2.1.1;omega
theorem SurfP.m:SmS x:=⟨by have:=h.rl;omega,λi=>by have:=h.ql i;omega⟩
theorem SurfP.row(i:Nat):Bnd (.sl qi) (.s 16 (j5 1600)) (x.2.2.2.2.getD i []):=by
 by_cases hi:i<x.2.2.2.2.length
 .rw[gtD hi];exact h.b.2.2.2.2.2 _ (q6M _)
 .rw[q5y,q5D (by omega)]
  exact⟨q6A _,λy hy=>by cases hy⟩
theorem SurfP.at(i j:Nat):Bnd qi (j5 1600) ((x.2.2.2.2.getD i []).getD j ((0,(0,0)),0)):=Dh (h.row i).2 j
theorem SurfP.col(k:Int): ∀n,∀p∈colP k x n,Bnd qi (j5 1600) p
 |0,p,hp=>by cases hp
 |n+1,p,hp=>by
  rw[colP]at hp;rcases q5N.1 hp with hp|hp
  .exact SurfP.col k n p hp
  .rw[q5U.1 hp];exact h.at _ _
theorem SurfP.side(k:Int):Bnd vj bCrP (ju x k):=by
 unfold ju;split
 .exact⟨h.b.2.1,h.b.2.2.2.1,h.row _⟩
 .split
  .exact⟨h.b.2.1,h.b.2.2.2.1,h.row _⟩
  .exact⟨h.b.1,h.b.2.2.1,by rw[CA];exact h.rl,h.col k _⟩
theorem SurfP.sk(k:Int):0<(ju x k).2.1.length:=by
 unfold ju;split
 .exact h.kv
 .split
  .exact h.kv
  .exact h.ku
end
def PanOk(P:List jz):Prop:=P.length<=4/\ ∀p∈P,SurfP p.1
section
variable {P:List jz} (h:PanOk P)
include h
theorem PanOk.at{i:Nat}(hi:i<P.length):SurfP (P.getD i zPan).1:=by rw[gtD hi];exact h.2 _ (q6M _)
theorem PanOk.cur{i:Nat}(hi:i<4*P.length):Bnd vj bCrP (bcur P i):=(h.at (i:=i/4) (by omega)).side _
theorem PanOk.kn{i:Nat}(hi:i<4*P.length):0<(bcur P i).2.1.length:=(h.at (i:=i/4) (by omega)).sk _
end
end
section
section
variable {P:List jz} {sq m m0:Rat} {i j n:Nat} {k:Int} {out:List Diag} {l:List Bord}
theorem Qw(h:out=vx P i)(c:jj (P.getD i zPan).1≠0):out++[wrg (jj (P.getD i zPan).1) (i:Int) (-1)]=vx P (i+1):=by rw[vx,if_pos c,h]
theorem Qv(h:out=vx P i)(c: ¬jj (P.getD i zPan).1≠0):out=vx P (i+1):=by rw[vx,if_neg c,h]
theorem Eo(P:List jz): ∀n,(vx P n).length<=n
 |0=>q6d _
 |n+1=>by
  have:=Eo P n;rw[vx];split
  .rw[q5G];show(vx P n).length+1<=n+1;omega
  .omega
theorem Qu: ∀n,¬0<(vx P n).length-> ∀i,i<n-> ¬jj (P.getD i zPan).1≠0
 |0,_,i,hi=>by omega
 |n+1,h,i,hi=>by
  rw[vx]at h;by_cases c:jj (P.getD n zPan).1≠0
  .rw[if_pos c,q5G]at h;exact absurd (show 0<(vx P n).length+1 by omega) h
  .rw[if_neg c]at h
   by_cases e:i=n
   .rw[e];exact c
   .exact Qu n h i (by omega)
theorem Vv{q:Nat}(h:l=w9 P (4*i+q))(hq:q<4):l++[(ju (P.getD i zPan).1 (q:Int),jK (ju (P.getD i zPan).1 (q:Int)).2.1,(i:Int),(q:Int),decide (q<2))]=w9 P (4*i+(q+1)):=by
 rw[<-q62,w9,bord,bcur,h,show(4*i+q)/4=i by omega,show(4*i+q)%4=q by omega,show decide ((q:Int)<2)=decide (q<2)from decide_eq_decide.2 (by omega)]
theorem AP{d:Bord}(hl:l=w9 P n)(hi:i<l.length):l.getD i d=bord P i:=by
 rw[hl]at hi⊢;rw[Aa]at hi;exact Lh P n i hi d
theorem Li{a b:Bord}(ha:a=bord P i)(hb:b=bord P j):(jW a b sq).2=(fitI P sq i j).2/\((jW a b sq).2=true->(jW a b sq).1=(fitI P sq i j).1):=by
 subst ha hb;exact SM rfl rfl
theorem in_y(h:(k,m)=inN P sq i m0 j)(c:(fitI P sq i j).2=true)(e:i≠j):(k+1,maxQ m (fitI P sq i j).1)=inN P sq i m0 (j+1):=by
 rw[inN,if_pos ⟨c,e⟩,<-h]
theorem in_n(h:(k,m)=inN P sq i m0 j)(c: ¬((fitI P sq i j).2=true/\i≠j)):(k,m)=inN P sq i m0 (j+1):=by rw[inN,if_neg c,h]
theorem in_Y{a b:Bord}(ha:a=bord P i)(hb:b=bord P j)(h:(k,m)=inN P sq i m0 j)(c:(jW a b sq).2=true)(e:i≠j):(k+1,maxQ m (jW a b sq).1)=inN P sq i m0 (j+1):=by
 have f:=Li (sq:=sq) ha hb;rw[f.2 c];rw[f.1]at c;exact in_y h c e
theorem in_F{a b:Bord}(ha:a=bord P i)(hb:b=bord P j)(h:(k,m)=inN P sq i m0 j)(c: ¬(jW a b sq).2=true):(k,m)=inN P sq i m0 (j+1):=by
 rw[(Li (sq:=sq) ha hb).1]at c;exact in_n h λe=>c e.1
theorem in_E(h:(k,m)=inN P sq i m0 j)(e: ¬i≠j):(k,m)=inN P sq i m0 (j+1):=in_n h λd=>e d.2
theorem UO(h:(out,m)=jU P sq i)(c:pntC (bcur P i)=true):(out,m)=jU P sq (i+1):=by rw[jU,if_pos c,h]
theorem UM{m2:Rat}(h:(out,m)=jU P sq i)(c: ¬pntC (bcur P i)=true)(hk:(k,m2)=inN P sq i m (4*P.length))(e: ¬k≠1):(out,m2)=jU P sq (i+1):=by
 rw[jU,if_neg c,<-h,<-hk,if_neg e]
theorem UN{m2:Rat}(h:(out,m)=jU P sq i)(c: ¬pntC (bcur P i)=true)(hk:(k,m2)=inN P sq i m (4*P.length))(e:k≠1):(out++[wrg 30 ((i/4:Nat):Int) ((i%4:Nat):Int)],m2)=jU P sq (i+1):=by
 rw[jU,if_neg c,<-h,<-hk,if_pos e]
theorem q4N{a:Bord}(ha:a=bord P i)(h:(out,m)=jU P sq i)(c:pntC a.1=true):(out,m)=jU P sq (i+1):=by subst ha;exact UO h c
theorem q4L{a:Bord}{m2:Rat}{j:Nat}(ha:a=bord P i)(h:(out,m)=jU P sq i)(c: ¬pntC a.1=true)(hk:(k,m2)=inN P sq i m j)(hj:j=4*P.length)(e: ¬k≠1):(out,m2)=jU P sq (i+1):=by subst ha hj;exact UM h c hk e
theorem q4M{a:Bord}{m2:Rat}{j:Nat}(ha:a=bord P i)(h:(out,m)=jU P sq i)(c: ¬pntC a.1=true)(hk:(k,m2)=inN P sq i m j)(hj:j=4*P.length)(e:k≠1):(out++[wrg 30 a.2.2.1 a.2.2.2.1],m2)=jU P sq (i+1):=by subst ha hj;exact UN h c hk e
theorem cp_1(h:out=vx P i)(hi:i=P.length)(c:0<out.length):out=(jI P sq).1/\0=(jI P sq).2:=by
 subst hi h;rw[jI,if_pos c];exact⟨rfl,rfl⟩
theorem cp_2{o:List Diag}(h:out=vx P i)(hi:i=P.length)(c: ¬0<out.length)(ho:(o,m)=jU P (sq*sq) j)(hj:j=4*P.length):o=(jI P sq).1/\m=(jI P sq).2:=by
 subst hi h hj;rw[jI,if_neg c,<-ho];exact⟨rfl,rfl⟩
theorem EH(P:List jz)(sq:Rat): ∀n,(jU P sq n).1.length<=n
 |0=>q6d _
 |n+1=>by
  have:=EH P sq n;rw[jU];split
  .omega
  .show(if _ then _ else _:List Diag).length<=n+1
   split
   .rw[q5G];show(jU P sq n).1.length+1<=n+1;omega
   .omega
theorem in_k(P:List jz)(sq:Rat)(i:Nat)(m:Rat): ∀n,0<=(inN P sq i m n).1/\(inN P sq i m n).1<=(n:Int)
 |0=>⟨Int.le_refl 0,Int.le_refl 0⟩
 |n+1=>by
  have:=in_k P sq i m n;rw[inN];split
  .show 0<=(inN P sq i m n).1+1/\(inN P sq i m n).1+1<=((n+1:Nat):Int)
   omega
  .omega
theorem q1g(h:PanOk P)(hi:i<4*P.length)(hj:j<4*P.length):Bnd .rat (.n 19208) (fitI P sq i j).1:=by
 have h1:=(h.cur hi).2.2.2;have h2:=(h.cur hj).2.2.2;unfold fitI vK;split
 .refine jL (Ie h1 (λu hu=>?_) _) (q6d _)
  unfold KN at hu;split at hu
  .exact h2 u (List.mem_reverse.1 hu)
  .exact h2 u hu
 .exact qK _
theorem in_b(h:PanOk P)(hi:i<4*P.length)(hm:Bnd .rat (.n 19208) m): ∀n,n<=4*P.length->Bnd .rat (.n 19208) (inN P sq i m n).2
 |0,_=>hm
 |n+1,hn=>by
  rw[inN];split
  .refine jL (CJ (in_b h hi hm n (by omega)) (q1g h hi (by omega))) ?_
   simp only[Bd.nb];omega
  .exact in_b h hi hm n (by omega)
theorem Pk(h:PanOk P): ∀n,n<=4*P.length->Bnd .rat (.n 19208) (jU P sq n).2
 |0,_=>qK _
 |n+1,hn=>by
  rw[jU];split
  .exact Pk h n (by omega)
  .exact in_b h (by omega) (Pk h n (by omega)) _ (q6d _)
abbrev bDg:Bd:= .p (.n 64) (.p (.n 64) (.p (.n 64) (.p (.n 64) (.n 64))))
theorem Vf{e p s:Int}(h1:e.natAbs<=64)(h2:p.natAbs<=64)(h3:s.natAbs<=64):Bnd Do bDg (wrg e p s):=⟨h1,show Int.natAbs (-1)<=64 by decide,h2,show Int.natAbs (-1)<=64 by decide,h3⟩
theorem LP(h:P.length<=4): ∀n,n<=P.length-> ∀y∈vx P n,Bnd Do bDg y
 |0,_,y,hy=>by cases hy
 |n+1,hn,y,hy=>by
  rw[vx]at hy;split at hy
  .rcases q5N.1 hy with hy|hy
   .exact LP h n (by omega) y hy
   .rw[q5U.1 hy]
    exact Vf (q6e (LB _) (by decide)) (by omega) (by decide)
  .exact LP h n (by omega) y hy
theorem Im(h:P.length<=4): ∀n,n<=4*P.length-> ∀y∈(jU P sq n).1,Bnd Do bDg y
 |0,_,y,hy=>by cases hy
 |n+1,hn,y,hy=>by
  rw[jU]at hy;split at hy
  .exact Im h n (by omega) y hy
  .replace hy:y∈(if _ then _ else _:List Diag):=hy
   split at hy
   .rcases q5N.1 hy with hy|hy
    .exact Im h n (by omega) y hy
    .rw[q5U.1 hy]
     exact Vf (by decide) (by omega) (by omega)
   .exact Im h n (by omega) y hy
end
theorem LA{P:List jz}(h:PanOk P)(t:Rat):Bnd (.sl Do) (.s 16 bDg) (jI P t).1/\Bnd .rat (.n 19208) (jI P t).2:=by
 have h4:=h.1;unfold jI;split
 .exact⟨⟨q6e (Eo _ _) (by omega),LP h4 _ (q6d _)⟩,qK _⟩
 .exact⟨⟨q6e (EH _ _ _) (by omega),Im h4 _ (q6d _)⟩,Pk h _ (q6d _)⟩
theorem Nt{P:List jz}(h:PanOk P)(t:Rat):(WV.tup [.one (.dt (.sl Do) (.s 16 bDg) (jI P t).1),.agg [.dt .rat (.n 19208) (jI P t).2]]).ok:=
 q9 (q8 (LA h t).1 rfl) (q9 (qB (LA h t).2) qr)
end
section
section
variable {c:j7} {v:V3} {l:List (List j2)} {i:Nat}
end
def j4(s:qu)(i:Nat):List j2:=s.2.2.2.2.getD i []
def colN(s:qu)(j:Nat):Nat->List j2
 |0=>[]
 |n+1=>colN s j n++[(j4 s n).getD j ((0,(0,0)),0)]
def swN(s:qu):Nat->List (List j2)
 |0=>[]
 |n+1=>swN s n++[colN s n s.2.2.2.2.length]
def qD(s:qu):qu:=(s.2.1,s.1,s.2.2.2.1,s.2.2.1,swN s (j4 s 0).length)
theorem Ek(s:qu)(j:Nat): ∀n,(colN s j n).length=n
 |0=>rfl
 |n+1=>by simp only[colN,q5G,Ek s j n,q5H,q5K]
theorem Bt(s:qu): ∀n,(swN s n).length=n
 |0=>rfl
 |n+1=>by simp only[swN,q5G,Bt s n,q5H,q5K]
theorem q0Y{s:qu}{i j:Nat}{l:List j2}(h:l=colN s j i):l++[(j4 s i).getD j ((0,(0,0)),0)]=colN s j (i+1):=by rw[h];rfl
theorem q5a{s:qu}{i j:Nat}{l:List (List j2)}{r:List j2}(h:l=swN s j)(hr:r=colN s j i)(hi: ¬i<s.2.2.2.2.length)(hl:i<=s.2.2.2.2.length):l++[r]=swN s (j+1):=by
 rw[h,hr,show i=s.2.2.2.2.length by omega];rfl
theorem TP{s:qu}{j:Nat}{l:List (List j2)}(h:l=swN s j)(hi: ¬j<(j4 s 0).length)(hl:j<=(j4 s 0).length):(s.2.1,s.1,s.2.2.2.1,s.2.2.1,l)=qD s:=by
 unfold qD;rw[h,show j=(j4 s 0).length by omega]
abbrev bSfl:Bd:= .p (.n 6) (.p (.n 6) (.p (.s 16 (.n 6)) (.p (.s 16 (.n 6)) (.s 16 (.s 16 (j5 12))))))
theorem d0_b(m:Nat):Bnd qi (j5 m) ((0,(0,0)),0):=⟨⟨qK _,qK _,qK _⟩,qK _⟩
theorem CM{s:qu}(h:Bnd qH bSfl s)(i:Nat):Bnd (.sl qi) (.s 16 (j5 12)) (j4 s i):=by
 unfold j4;by_cases e:i<s.2.2.2.2.length
 .rw[z6 e];exact h.2.2.2.2.2 _ (q6M e)
 .rw[q5y,q5D (by omega)];exact⟨q6A _,λx hx=>by cases hx⟩
theorem Xw{l:List j2}{m:Nat}(h: ∀p∈l,Bnd qi (j5 m) p)(j:Nat):Bnd qi (j5 m) (l.getD j ((0,(0,0)),0)):=by
 by_cases e:j<l.length
 .rw[z6 e];exact h _ (q6M e)
 .rw[q5y,q5D (by omega)];exact d0_b m
theorem Qi{s:qu}(h:Bnd qH bSfl s)(j:Nat): ∀n,∀p∈colN s j n,Bnd qi (j5 12) p
 |0,p,hp=>by cases hp
 |n+1,p,hp=>by
  simp only[colN,q5N,q5U]at hp;rcases hp with hp|hp
  .exact Qi h j n p hp
  .rw[hp];exact Xw (CM h n).2 j
theorem V4{s:qu}(h:Bnd qH bSfl s): ∀n,∀r∈swN s n,Bnd (.sl qi) (.s 16 (j5 12)) r
 |0,r,hr=>by cases hr
 |n+1,r,hr=>by
  simp only[swN,q5N,q5U]at hr;rcases hr with hr|hr
  .exact V4 h n r hr
  .rw[hr];exact⟨by rw[Ek];exact h.2.2.2.2.1,Qi h n _⟩
theorem JA{s:qu}(h:Bnd qH bSfl s):Bnd qH bSfl (qD s):=
 ⟨h.2.1,h.1,h.2.2.2.1,h.2.2.1,by show(swN s (j4 s 0).length).length<=16;rw[Bt];exact(CM h 0).1,V4 h _⟩
abbrev rowC(s:qu)(i:Nat):j7:=(s.2.1,s.2.2.2.1,j4 s i)
def isoP(s:qu)(t:Rat):Nat->List j2
 |0=>[]
 |n+1=>isoP s t n++[jJ (homV (rowC s n) t)]
theorem GT(s:qu)(t:Rat): ∀n,(isoP s t n).length=n
 |0=>rfl
 |n+1=>by simp only[isoP,q5G,GT s t n,q5H,q5K]
def isoV(s:qu)(t:Rat):j7×Int:=if ivE s.2.2.2.1 t≠0 then((0,[],[]),ivE s.2.2.2.1 t)else((s.1,s.2.2.1,isoP s t s.2.2.2.2.length),0)
structure IsO (s:qu) (t:Rat):Prop where
 sb:Bnd qH bSfl s
 tb:Bnd .rat (.n 4096) t
 d0:0<=s.2.1
 kl:s.2.1.toNat+2<=s.2.2.2.1.length
 ev: ∀i,i<s.2.2.2.2.length->EvC (rowC s i) t
 pb: ∀i,i<s.2.2.2.2.length->Bnd qi (j5 200000) (jJ (homV (rowC s i) t))
abbrev bIso:Bd:= .p (.n 6) (.p (.s 16 (.n 6)) (.s 16 (j5 200000)))
theorem LZ{s:qu}{t:Rat}(h:IsO s t): ∀n,n<=s.2.2.2.2.length-> ∀p∈isoP s t n,Bnd qi (j5 200000) p
 |0,_,p,hp=>by cases hp
 |n+1,hn,p,hp=>by
  simp only[isoP,q5N,q5U]at hp;rcases hp with hp|hp
  .exact LZ h n (by omega) p hp
  .rw[hp];exact h.pb n (by omega)
end
section
def qt{α:Type}(f:Nat->α):Nat->List α
 |0=>[]
 |n+1=>qt f n++[f n]
theorem ja{α:Type}(f:Nat->α): ∀n,(qt f n).length=n
 |0=>rfl
 |n+1=>by rw[qt,q5G,ja f n];rfl
theorem ME{α:Type}{f:Nat->α}{l:List α}{i:Nat}(h:l=qt f i):l++[f i]=qt f (i+1):=by rw[h];rfl
theorem zg{α:Type}{f:Nat->α}{y:α}: ∀{n},y∈qt f n-> ∃i,i<n/\y=f i
 |0,h=>by cases h
 |n+1,h=>by
  rw[qt]at h;rcases q5N.1 h with h|h
  .obtain⟨i,h1,h2⟩:=zg h
   exact⟨i,by omega,h2⟩
  .exact⟨n,by omega,q5U.1 h⟩
theorem Bu{α:Type}{f:Nat->α}{d:α}: ∀{n i},i<n->(qt f n).getD i d=f i
 |0,i,h=>by omega
 |n+1,i,h=>by
  rw[qt];by_cases hi:i<n
  .rw[q5y,List.getElem?_append_left (by rw[ja];exact hi),<-q5y,Bu hi]
  .have:i=n:=by omega
   subst this;rw[q5y,List.getElem?_append_right (by rw[ja];exact q6d _),ja,Nat.sub_self];rfl
theorem C6{α:Type}{f g:Nat->α}: ∀{n},(∀i,i<n->f i=g i)->qt f n=qt g n
 |0,_=>rfl
 |n+1,h=>by rw[qt,qt,C6 λi hi=>h i (by omega),h n (by omega)]
abbrev zCur:j7:=(0,[],[])
abbrev rwC(s:qu)(i:Nat):j7:=(s.2.1,s.2.2.2.1,j4 s i)
def wrV(s:qu)(l:List j7):qu:=(s.1,(l.getD 0 zCur).1,s.2.2.1,(l.getD 0 zCur).2.1,qt (λi=>(l.getD i zCur).2.2) l.length)
theorem IQ{s:qu}{f:Nat->j7}{n:Nat}(h:0<n):wrV s (qt f n)=(s.1,(f 0).1,s.2.2.1,(f 0).2.1,qt (λi=>(f i).2.2) n):=by
 rw[wrV,Bu h,ja,C6 λi hi=>by rw[Bu hi]]
def mirV(s:qu):qu:=wrV s (qt (λi=>jk (rwC s i)) s.2.2.2.2.length)
def mirU(s:qu):qu:=qD (mirV (qD s))
abbrev V3x3:Type:=V3×V3×V3
abbrev Mapp:Type:=V3x3×V3
abbrev Ax:Ty:= .pr (.pr qV (.pr qV qV)) qV
def IG(m:Mapp)(p:V3):V3:=(dotQ m.1.1 p,dotQ m.1.2.1 p,dotQ m.1.2.2 p)
def appV(m:Mapp)(p:V3):V3:=addV (IG m p) m.2
def movP(m:Mapp)(p:j2):j2:=(appV m p.1,p.2)
def movC(c:j7)(m:Mapp):j7:=(c.1,c.2.1,qt (λi=>movP m (c.2.2.getD i jt)) c.2.2.length)
def movV(s:qu)(m:Mapp):qu:=wrV s (qt (λi=>movC (rwC s i) m) s.2.2.2.2.length)
def mixF(f:Rat)(a b:F4):F4:=(a.1+f*(b.1-a.1),a.2.1+f*(b.2.1-a.2.1),a.2.2.1+f*(b.2.2.1-a.2.2.1),a.2.2.2+f*(b.2.2.2-a.2.2.2))
def vu(k:List Rat)(t:Rat):Nat->List Rat×Bool
 |0=>([],false)
 |n+1=>if(vu k t n).2=false/\qL t (k.getD n 0)<0 then((vu k t n).1++[t]++[k.getD n 0],true)else((vu k t n).1++[k.getD n 0],(vu k t n).2)
def vY(k:List Rat)(t:Rat):List Rat:=if(vu k t k.length).2=false then(vu k t k.length).1++[t]else(vu k t k.length).1
def insP(c:j7)(t:Rat)(i:Nat):j2:=
 if(i:Int)<=((jG c.2.1 c.1 t:Nat):Int) -c.1 then c.2.2.getD i jt else
 if((jG c.2.1 c.1 t:Nat):Int) -((qW c.2.1 t c.2.1.length:Nat):Int)<(i:Int)then c.2.2.getD (i-1) jt else
 jJ (mixF ((t-c.2.1.getD i 0)/(c.2.1.getD (i+c.1.toNat) 0-c.2.1.getD i 0)) (jN (c.2.2.getD (i-1) jt)) (jN (c.2.2.getD i jt)))
def insC(c:j7)(t:Rat):j7:=(c.1,vY c.2.1 t,qt (insP c t) (c.2.2.length+1))
def insV(s:qu)(t:Rat):qu:=wrV s (qt (λi=>insC (rwC s i) t) s.2.2.2.2.length)
def insU(s:qu)(t:Rat):qu:=qD (insV (qD s) t)
def MatB(m R C:Nat)(l:List (List j2)):Prop:=l.length=R/\ ∀r∈l,r.length=C/\ ∀p∈r,0<p.2/\Bnd qi (j5 m) p
theorem LH(s:qu)(j:Nat): ∀n,colN s j n=qt (λi=>(j4 s i).getD j jt) n
 |0=>rfl
 |n+1=>by rw[colN,qt,LH s j n]
theorem Gq(s:qu): ∀n,swN s n=qt (λj=>qt (λi=>(j4 s i).getD j jt) s.2.2.2.2.length) n
 |0=>rfl
 |n+1=>by rw[swN,qt,Gq s n,LH]
theorem Gf{p:j2}{a c:Nat}(h:Bnd qi (j5 a) p)(hm:a<=c):Bnd qi (j5 c) p:=⟨⟨qQ h.1.1 hm,qQ h.1.2.1 hm,qQ h.1.2.2 hm⟩,qQ h.2 hm⟩
section
variable {m R C:Nat} {x:qu}
theorem MatB.le{m':Nat}{l:List (List j2)}(h:MatB m R C l)(hm:m<=m'):MatB m' R C l:=⟨h.1,λr hr=>⟨(h.2 r hr).1,λp hp=>⟨((h.2 r hr).2 p hp).1,Gf ((h.2 r hr).2 p hp).2 hm⟩⟩⟩
theorem MatB.row(h:MatB m R C x.2.2.2.2){i:Nat}(hi:i<R):j4 x i∈x.2.2.2.2:=by
 rw[j4,gtD (by rw[h.1];exact hi)];exact q6M _
theorem MatB.rl(h:MatB m R C x.2.2.2.2){i:Nat}(hi:i<R):(j4 x i).length=C:=(h.2 _ (h.row hi)).1
theorem MatB.pole(h:MatB m R C x.2.2.2.2){i j:Nat}(hi:i<R)(hj:j<C):0<((j4 x i).getD j jt).2/\Bnd qi (j5 m) ((j4 x i).getD j jt):=by
 have hl:=h.rl hi;refine(h.2 _ (h.row hi)).2 _ ?_;rw[gtD (by rw[hl];exact hj)];exact q6M _
theorem MatB.tab{f:Nat->List j2}(h: ∀i,i<R->(f i).length=C/\ ∀p∈f i,0<p.2/\Bnd qi (j5 m) p):MatB m R C (qt f R):=
 ⟨ja _ _,λr hr=>by obtain⟨i,hi,rfl⟩:=zg hr;exact h i hi⟩
theorem MatB.swap(h:MatB m R C x.2.2.2.2)(hR:0<R):MatB m C R (qD x).2.2.2.2:=by
 show MatB m C R (swN x (j4 x 0).length);rw[Gq,h.rl hR,h.1];refine MatB.tab λj hj=>⟨ja _ _,λp hp=>?_⟩
 obtain⟨i,hi,rfl⟩:=zg hp;exact h.pole hi hj
theorem MatB.rowp(h:MatB m R C x.2.2.2.2){i:Nat}(hi:i<R): ∀p∈j4 x i,0<p.2/\Bnd qi (j5 m) p:=(h.2 _ (h.row hi)).2
theorem Ra(h:MatB m R C x.2.2.2.2)(hR:0<R):mirV x=(x.1,x.2.1,x.2.2.1,vo x.2.2.2.1,qt (λi=>(j4 x i).reverse) R):=by rw[mirV,h.1,IQ hR];rfl
theorem MatB.mir(h:MatB m R C x.2.2.2.2)(hR:0<R):MatB m R C (mirV x).2.2.2.2:=by
 rw[Ra h hR];exact MatB.tab λi hi=>⟨by rw[List.length_reverse];exact h.rl hi,λp hp=>h.rowp hi p (List.mem_reverse.1 hp)⟩
theorem Rc{q:Mapp}(h:MatB m R C x.2.2.2.2)(hR:0<R):movV x q=(x.1,x.2.1,x.2.2.1,x.2.2.2.1,qt (λi=>qt (λj=>movP q ((j4 x i).getD j jt)) C) R):=by
 rw[movV,h.1,IQ hR];show(x.1,x.2.1,x.2.2.1,x.2.2.2.1,qt (λi=>qt (λj=>movP q ((j4 x i).getD j jt)) (j4 x i).length) R)=_;rw[C6 λi hi=>by rw[h.rl hi]]
abbrev Ee(b:Nat):Bd:= .p (.p (bV3 b) (.p (bV3 b) (bV3 b))) (bV3 b)
theorem L6{b:Nat}{q:Mapp}{p:V3}(hq:Bnd Ax (Ee b) q)(hp:Bnd qV (bV3 m) p):Bnd qV (bV3 (3*m+4*b+3)) (appV q p):=by
 have d: ∀{y:V3},Bnd qV (bV3 b) y->Bnd .rat (.n (3*(b+m)+2)) (dotQ y p):=λhy=>jL (DM hy hp) (by simp only[Bd.nb,Bd.mx];omega)
 have a: ∀{u v:Rat},Bnd .rat (.n (3*(b+m)+2)) u->Bnd .rat (.n b) v->Bnd .rat (.n (3*m+4*b+3)) (u+v):=λhu hv=>jL (AD hu hv) (by simp only[Bd.nb];omega)
 exact⟨a (d hq.1.1) hq.2.1,a (d hq.1.2.1) hq.2.2.1,a (d hq.1.2.2) hq.2.2.2⟩
theorem MatB.mov{b:Nat}{q:Mapp}(h:MatB m R C x.2.2.2.2)(hR:0<R)(hq:Bnd Ax (Ee b) q):MatB (3*m+4*b+3) R C (movV x q).2.2.2.2:=by
 rw[Rc h hR];refine MatB.tab λi hi=>⟨ja _ _,λp hp=>?_⟩
 obtain⟨j,hj,rfl⟩:=zg hp;have:=h.pole hi hj;exact⟨this.1,L6 hq this.2.1,qQ this.2.2 (by omega)⟩
end
abbrev hlf:Rat:=((1:Int):Rat)/((2:Int):Rat)
abbrev kA:List Rat:=[0,0,0,1,1,1]
abbrev kB:List Rat:=[0,0,0,hlf,1,1,1]
abbrev kC:List Rat:=[0,0,0,hlf,hlf,1,1,1]
theorem q24:vo kA=kA:=by decide+kernel
theorem q1D:vY kA hlf=kB:=by decide+kernel
theorem q1E:vY kB hlf=kC:=by decide+kernel
theorem Ut:jG kA 2 hlf=2/\qW kA hlf 6=0:=by decide+kernel
theorem Uu:jG kB 2 hlf=3/\qW kB hlf 7=1:=by decide+kernel
def InsO(c:j7)(t:Rat):Prop:=c.1=2/\t=hlf/\(c.2.1=kA/\c.2.2.length=3\/c.2.1=kB/\c.2.2.length=4)
def midP(a b:j2):j2:=jJ (mixF hlf (jN a) (jN b))
theorem UC{m k:Nat}{f:Rat}{a b:F4}(hf:Bnd .rat (.n k) f)(ha:Bnd jx (bF4 m) a)(hb:Bnd jx (bF4 m) b):Bnd jx (bF4 (3*m+k+2)) (mixF f a b):=by
 have s: ∀{u v:Rat},Bnd .rat (.n m) u->Bnd .rat (.n m) v->Bnd .rat (.n (3*m+k+2)) (u+f*(v-u)):=λhu hv=>jL (AD hu (za hf (A8 hv hu))) (by simp only[Bd.nb];omega)
 exact⟨s ha.1 hb.1,s ha.2.1 hb.2.1,s ha.2.2.1 hb.2.2.1,s ha.2.2.2 hb.2.2.2⟩
theorem rbd{x:Rat}{b:Nat}(h:x.num.natAbs<2^b/\x.den<=2^b):Bnd .rat (.n b) x:=h
theorem Ky:Bnd .rat (.n 2) hlf:=rbd (by decide+kernel)
theorem R9{m:Nat}{a b:j2}(ha:Bnd qi (j5 m) a)(hb:Bnd qi (j5 m) b):Bnd qi (j5 (12*m+10)) (midP a b):=by
 have h1:=Ck ha;have h2:=Ck hb;have h3:=DN (UC Ky h1 h2);exact Mm h3 (by simp only[Bd.mx];omega)
theorem q22{a b:j2}(ha:0<a.2)(hb:0<b.2):0<(midP a b).2:=by
 show 0<a.2+hlf*(b.2-a.2);have e:hlf=1/2:=by decide+kernel
 rw[e]
 grind
theorem QS{c:j7}{t:Rat}(h:InsO c t){i:Nat}(hi:i<=c.2.2.length):(∃j,j<c.2.2.length/\insP c t i=c.2.2.getD j jt)\/(∃j,j+1<c.2.2.length/\insP c t i=midP (c.2.2.getD j jt) (c.2.2.getD (j+1) jt)):=by
 obtain⟨h1,rfl,h3⟩:=h;obtain⟨d,k,l⟩:=c;simp only at h1 h3 hi⊢;subst h1;rcases h3 with⟨rfl,hl⟩|⟨rfl,hl⟩
 .have e:jG kA 2 hlf=2/\qW kA hlf kA.length=0:=Ut
  unfold insP;simp only[e.1,e.2];have:i=0\/i=1\/i=2\/i=3:=by omega
  rcases this with rfl|rfl|rfl|rfl
  .exact .inl ⟨0,by omega,rfl⟩
  .exact .inr ⟨0,by omega,by rw[if_neg (by decide),if_neg (by decide),show(hlf-kA.getD 1 0)/(kA.getD (1+(2:Int).toNat) 0-kA.getD 1 0)=hlf by decide+kernel];rfl⟩
  .exact .inr ⟨1,by omega,by rw[if_neg (by decide),if_neg (by decide),show(hlf-kA.getD 2 0)/(kA.getD (2+(2:Int).toNat) 0-kA.getD 2 0)=hlf by decide+kernel];rfl⟩
  .exact .inl ⟨2,by omega,rfl⟩
 .have e:jG kB 2 hlf=3/\qW kB hlf kB.length=1:=Uu
  unfold insP;simp only[e.1,e.2];have:i=0\/i=1\/i=2\/i=3\/i=4:=by omega
  rcases this with rfl|rfl|rfl|rfl|rfl
  .exact .inl ⟨0,by omega,rfl⟩
  .exact .inl ⟨1,by omega,rfl⟩
  .exact .inr ⟨1,by omega,by rw[if_neg (by decide),if_neg (by decide),show(hlf-kB.getD 2 0)/(kB.getD (2+(2:Int).toNat) 0-kB.getD 2 0)=hlf by decide+kernel];rfl⟩
  .exact .inl ⟨2,by omega,rfl⟩
  .exact .inl ⟨3,by omega,rfl⟩
theorem WZ{m:Nat}{c:j7}{t:Rat}(h:InsO c t)(hp: ∀p∈c.2.2,0<p.2/\Bnd qi (j5 m) p){i:Nat}(hi:i<=c.2.2.length):0<(insP c t i).2/\Bnd qi (j5 (12*m+10)) (insP c t i):=by
 have g: ∀j,j<c.2.2.length->0<(c.2.2.getD j jt).2/\Bnd qi (j5 m) (c.2.2.getD j jt):=λj hj=>hp _ (by rw[gtD hj];exact q6M _)
 rcases QS h hi with⟨j,hj,e⟩|⟨j,hj,e⟩
 .rw[e];exact⟨(g j hj).1,Gf (g j hj).2 (by omega)⟩
 .rw[e]
  have h1:=g j (by omega);have h2:=g (j+1) hj;exact⟨q22 h1.1 h2.1,R9 h1.2 h2.2⟩
section
variable {m R C:Nat} {x:qu} {t:Rat}
theorem QT(h:MatB m R C x.2.2.2.2)(hR:0<R):insV x t=(x.1,x.2.1,x.2.2.1,vY x.2.2.2.1 t,qt (λi=>qt (insP (rwC x i) t) (C+1)) R):=by
 rw[insV,h.1,IQ hR];show(x.1,x.2.1,x.2.2.1,vY x.2.2.2.1 t,qt (λi=>qt (insP (rwC x i) t) ((j4 x i).length+1)) R)=_;rw[C6 λi hi=>by rw[h.rl hi]]
theorem MatB.ins(h:MatB m R C x.2.2.2.2)(hR:0<R)(ho: ∀i,i<R->InsO (rwC x i) t):MatB (12*m+10) R (C+1) (insV x t).2.2.2.2:=by
 rw[QT h hR];refine MatB.tab λi hi=>⟨ja _ _,λp hp=>?_⟩
 obtain⟨j,hj,rfl⟩:=zg hp;exact WZ (ho i hi) (h.rowp hi) (show j<=(j4 x i).length by rw[h.rl hi];omega)
end
def bG:Nat->Nat
 |0=>4
 |1=>64
 |_=>800
def KR(n:Nat)(k:List Rat)(r:Nat):Prop:=k=kA/\r=3\/1<=n/\(k=kB/\r=4\/k=kA.drop 1/\r=3)\/2<=n/\(k=kC/\r=5\/k=kB.drop 1/\r=4)
structure SurfG (n:Nat) (x:qu):Prop where
 u:x.1=2
 v:x.2.1=2
 kv:x.2.2.2.1=kA
 ku:KR n x.2.2.1 x.2.2.2.2.length
 mat:MatB (bG n) x.2.2.2.2.length 3 x.2.2.2.2
end
section
theorem OD{n k:Nat}(h:n<=k)(hk:k<=2):bG n<=bG k:=by
 have:(n=0\/n=1\/n=2)/\(k=0\/k=1\/k=2):=by omega
 rcases this with⟨rfl|rfl|rfl,rfl|rfl|rfl⟩<;>first|decide|omega
theorem KR.mono{n k:Nat}{l:List Rat}{r:Nat}(h:KR n l r)(hk:n<=k):KR k l r:=by
 rcases h with h|⟨h1,h⟩|⟨h1,h⟩
 .exact .inl h
 .exact .inr (.inl ⟨by omega,h⟩)
 .exact .inr (.inr ⟨by omega,h⟩)
theorem KR.r{n:Nat}{l:List Rat}{r:Nat}(h:KR n l r):3<=r/\r<=5:=by
 rcases h with h|⟨_,h|h⟩|⟨_,h|h⟩<;>omega
theorem nt_A: ¬qF (kA.drop 1) 2=0:=by decide+kernel
theorem KR.ok{n:Nat}{l:List Rat}{r:Nat}(h:KR n l r)(hn:n<=1)(hc:qF l 2=0):l=kA/\r=3\/1<=n/\l=kB/\r=4:=by
 rcases h with h|⟨h1,h|h⟩|⟨h1,_⟩
 .exact .inl h
 .exact .inr ⟨h1,h⟩
 .rw[h.1]at hc;exact absurd hc nt_A
 .omega
theorem Qe{x:qu}(h: ¬jj x≠0):qF x.2.2.1 x.1=0:=by
 unfold jj at h;split at h
 .rename_i e;exact absurd e h
 .rename_i e;exact Decidable.not_not.1 e
section
variable {n:Nat} {x:qu} (h:SurfG n x)
include h
theorem SurfG.r3:3<=x.2.2.2.2.length/\x.2.2.2.2.length<=5:=h.ku.r
theorem SurfG.mono{k:Nat}(hk:n<=k)(h2:k<=2):SurfG k x:=⟨h.u,h.v,h.kv,h.ku.mono hk,h.mat.le (OD hk h2)⟩
theorem SurfG.mir:SurfG n (mirV x):=by
 have hr:=h.r3;have hm:=h.mat.mir (by omega);have e:=Ra h.mat (by omega);have hl:(mirV x).2.2.2.2.length=x.2.2.2.2.length:=hm.1;refine⟨by rw[e];exact h.u,by rw[e];exact h.v,by rw[e];show vo x.2.2.2.1=kA;rw[h.kv];exact q24,?_,by rw[hl];exact hm⟩;rw[hl,e];exact h.ku
theorem SurfG.mov{q:Mapp}(hn:n<=1)(hq:Bnd Ax (Ee 2) q):SurfG (n+1) (movV x q):=by
 have hr:=h.r3;have hm:=h.mat.mov (by omega) hq;have e:=Rc (q:=q) h.mat (by omega);have hl:(movV x q).2.2.2.2.length=x.2.2.2.2.length:=hm.1
 have hg:3*bG n+4*2+3<=bG (n+1):=by
  have:n=0\/n=1:=by omega
  rcases this with rfl|rfl<;>decide
 refine⟨by rw[e];exact h.u,by rw[e];exact h.v,by rw[e];exact h.kv,?_,by rw[hl];exact hm.le hg⟩;rw[hl,e];exact h.ku.mono (by omega)
theorem SurfG.ins(hn:n<=1)(hc: ¬jj x≠0):SurfG (n+1) (insU x hlf)/\(∀i,i<3->InsO (rwC (qD x) i) hlf):=by
 have hr:=h.r3;have hk:=h.ku.ok hn (by have:=Qe hc;rw[h.u]at this;exact this);have hs:=h.mat.swap (by omega)
 have ho: ∀i,i<3->InsO (rwC (qD x) i) hlf:=λi hi=>by
  refine⟨h.u,rfl,?_⟩;rw[show(rwC (qD x) i).2.2.length=x.2.2.2.2.length from hs.rl hi];rcases hk with hk|⟨_,hk⟩
  .exact .inl hk
  .exact .inr hk
 have hm:=hs.ins (by omega) ho;have e:=QT (t:=hlf) hs (by omega);have hm2:=hm.swap (by omega);refine⟨?_,ho⟩
 have hg:12*bG n+10<=bG (n+1):=by
  have:n=0\/n=1:=by omega
  rcases this with rfl|rfl<;>decide
 have hl:(insU x hlf).2.2.2.2.length=x.2.2.2.2.length+1:=hm2.1;have hu:(insU x hlf).1=(insV (qD x) hlf).2.1:=rfl;have hv:(insU x hlf).2.1=(insV (qD x) hlf).1:=rfl;have hku:(insU x hlf).2.2.1=(insV (qD x) hlf).2.2.2.1:=rfl;have hkv:(insU x hlf).2.2.2.1=(insV (qD x) hlf).2.2.1:=rfl;refine⟨by rw[hu,e];exact h.u,by rw[hv,e];exact h.v,by rw[hkv,e];exact h.kv,?_,by rw[hl];exact hm2.le hg⟩;rw[hl,hku,e];show KR (n+1) (vY x.2.2.1 hlf) (x.2.2.2.2.length+1);rcases hk with⟨a,c⟩|⟨d,a,c⟩
 .rw[a,c,q1D];exact .inr (.inl ⟨by omega,.inl ⟨rfl,rfl⟩⟩)
 .rw[a,c,q1E];exact .inr (.inr ⟨by omega,.inl ⟨rfl,rfl⟩⟩)
theorem SurfG.tl(hn:n<=1)(hc: ¬jj x≠0):SurfG (n+1) (x.1,x.2.1,x.2.2.1.drop 1,x.2.2.2.1,x.2.2.2.2):=by
 have hk:=h.ku.ok hn (by have:=Qe hc;rw[h.u]at this;exact this);refine⟨h.u,h.v,h.kv,?_,h.mat.le (OD (by omega) (by omega))⟩;show KR (n+1) (x.2.2.1.drop 1) x.2.2.2.2.length;rcases hk with⟨a,c⟩|⟨d,a,c⟩
 .rw[a,c];exact .inr (.inl ⟨by omega,.inr ⟨rfl,rfl⟩⟩)
 .rw[a,c];exact .inr (.inr ⟨by omega,.inr ⟨rfl,rfl⟩⟩)
theorem SurfG.swap(h0:n=0):SurfG 0 (qD x):=by
 subst h0
 have hk:x.2.2.1=kA/\x.2.2.2.2.length=3:=by
  rcases h.ku with hk|⟨h1,_⟩|⟨h1,_⟩
  .exact hk
  .omega
  .omega
 have hs:=h.mat.swap (by omega);rw[hk.2]at hs;exact⟨h.v,h.u,hk.1,.inl ⟨h.kv,hs.1⟩,by rw[hs.1];exact hs⟩
end
theorem SurfG.mirU0{x:qu}(h:SurfG 0 x):SurfG 0 (mirU x):=((h.swap rfl).mir).swap rfl
theorem rb1:Bnd .rat (.n 256) 1:=qQ (a:=2) (rbd (by decide+kernel)) (by decide)
theorem kC_b: ∀y∈kC,Bnd .rat (.n 256) y:=λy hy=>by
 simp only[q5O,q5W,or_false]at hy;rcases hy with rfl|rfl|rfl|rfl|rfl|rfl|rfl|rfl
 .exact qK _
 .exact qK _
 .exact qK _
 .exact qQ Ky (by decide)
 .exact qQ Ky (by decide)
 .exact rb1
 .exact rb1
 .exact rb1
theorem kA_C: ∀y∈kA,y∈kC:=λy hy=>by simp only[q5O,q5W,or_false]at hy⊢;grind
theorem kB_C: ∀y∈kB,y∈kC:=λy hy=>by simp only[q5O,q5W,or_false]at hy⊢;grind
theorem KR.b{n:Nat}{l:List Rat}{r:Nat}(h:KR n l r):Bnd (.sl .rat) (.s 16 (.n 256)) l/\0<l.length:=by
 rcases h with h|⟨_,h|h⟩|⟨_,h|h⟩<;>rw[h.1]
 .exact⟨⟨by decide,λy hy=>kC_b y (kA_C y hy)⟩,by decide⟩
 .exact⟨⟨by decide,λy hy=>kC_b y (kB_C y hy)⟩,by decide⟩
 .exact⟨⟨by decide,λy hy=>kC_b y (kA_C y (q6V hy))⟩,by decide⟩
 .exact⟨⟨by decide,λy hy=>kC_b y hy⟩,by decide⟩
 .exact⟨⟨by decide,λy hy=>kC_b y (kB_C y (q6V hy))⟩,by decide⟩
theorem SurfG.P{n:Nat}{x:qu}(h:SurfG n x)(hn:n<=2):SurfP x:=by
 have hr:=h.r3;have hk:=h.ku.b
 have hv:Bnd (.sl .rat) (.s 16 (.n 256)) x.2.2.2.1/\0<x.2.2.2.1.length:=by
  rw[h.kv];exact(show KR 0 kA 3 from .inl ⟨rfl,rfl⟩).b
 have hb:bG n<=1600:=q6e (OD hn (q6d 2)) (by decide);refine⟨⟨?_,?_,hk.1,hv.1,?_,λr hrm=>⟨?_,λp hp=>Gf ((h.mat.2 r hrm).2 p hp).2 hb⟩⟩,λr hrm p hp=>((h.mat.2 r hrm).2 p hp).1,by omega,λi hi=>?_,hk.2,hv.2⟩
 .show Int.natAbs x.1<=8
  rw[h.u];decide
 .show Int.natAbs x.2.1<=8
  rw[h.v];decide
 .omega
 .rw[(h.mat.2 r hrm).1];decide
 .rw[gtD hi,(h.mat.2 _ (q6M _)).1];decide
def PanG(n:Nat)(P:List jz):Prop:=P.length<=2+n/\ ∀p∈P,SurfG n p.1
theorem PanG.ok{n:Nat}{P:List jz}(h:PanG n P)(hn:n<=2):PanOk P:=⟨q6e h.1 (by omega),λp hp=>(h.2 p hp).P hn⟩
theorem PanG.mono{n:Nat}{P:List jz}(h:PanG n P)(hn:n<=1):PanG (n+1) P:=⟨q6e h.1 (by omega),λp hp=>(h.2 p hp).mono (by omega) (by omega)⟩
theorem PanG.at{n:Nat}{P:List jz}(h:PanG n P){i:Nat}(hi:i<P.length):SurfG n (P.getD i zPan).1:=by rw[gtD hi];exact h.2 _ (q6M _)
theorem PanG.set{n:Nat}{P:List jz}(h:PanG n P)(hn:n<=1){y:jz}(hy:SurfG (n+1) y.1)(i:Nat):PanG (n+1) (P.set i y):=by
 refine⟨by rw[q6S];exact(h.mono hn).1,λp hp=>?_⟩;rcases List.mem_or_eq_of_mem_set hp with hp|rfl
 .exact(h.mono hn).2 p hp
 .exact hy
abbrev nmU:ByteArray:=⟨#[117,112]⟩
abbrev nmD:ByteArray:=⟨#[100,111,119,110]⟩
def idM:V3x3:=((1,0,0),(0,1,0),(0,0,1))
def upM(s:jT):Mapp:=(idM,(0,0,((1:Int):Rat)/((1+qf s 3:Int):Rat)))
def oK(s:jT)(P:List jz):Nat:=(qf s (P.length:Int)).toNat
def oX(s:jT)(P:List jz):qu:=(P.getD (oK s P) zPan).1
def oC(s:jT):Int:=qf (qw s) 6
def oS(s:jT)(P:List jz):qu:=
 if oC s=0 then mirV (oX s P)else if oC s=1 then movV (oX s P) (upM (qw (qw s)))else if oC s=2 then insU (oX s P) hlf else
 ((oX s P).1,(oX s P).2.1,(oX s P).2.2.1.drop 1,(oX s P).2.2.2.1,(oX s P).2.2.2.2)
def oddV(s:jT)(P:List jz):List jz:=
 if P.length=0 then P else if jj (oX s P)≠0 then P else if oC s=3 then P.take 1 else if oC s=5 then P++[P.getD (oK s P) zPan]else
 P.set (oK s P) (oS s P,(P.getD (oK s P) zPan).2)
def vh(s:jT)(P:List jz):jT:=
 if P.length=0 then s else if jj (oX s P)≠0 then qw s else if oC s=1 then qw (qw (qw s))else qw (qw s)
theorem UF{s:jT}{P:List jz}(h: ¬P.length=0):oK s P<P.length:=by
 have:=AU s (m:=(P.length:Int)) (by omega);unfold oK;omega
theorem Vc(s:jT):Bnd Ax (Ee 2) (upM s):=by
 have h:=AU s (m:=3) (by omega);have h1:Bnd .rat (.n 2) (1:Rat):=rbd (by decide+kernel);have h0:Bnd .rat (.n 2) (0:Rat):=qK _;refine⟨⟨⟨h1,h0,h0⟩,⟨h0,h1,h0⟩,⟨h0,h0,h1⟩⟩,⟨h0,h0,?_⟩⟩;show Bnd .rat (.n 2) (((1:Int):Rat)/((1+qf s 3:Int):Rat));have:qf s 3=0\/qf s 3=1\/qf s 3=2:=by omega
 rcases this with e|e|e<;>rw[e]<;>exact rbd (by decide+kernel)
theorem PanG.odd{n:Nat}{P:List jz}(h:PanG n P)(hn:n<=1)(s:jT):PanG (n+1) (oddV s P):=by
 unfold oddV;split
 .exact h.mono hn
 rename_i h0;split
 .exact h.mono hn
 rename_i hc;have hx:=h.at (UF (s:=s) h0);split
 .refine⟨?_,λp hp=>(h.mono hn).2 p (q5T hp)⟩
  rw[q5L];have:=(h.mono hn).1;omega
 split
 .refine⟨?_,λp hp=>?_⟩
  .rw[q5G];have:=h.1;show P.length+1<=2+(n+1);omega
  .rcases q5N.1 hp with hp|hp
   .exact(h.mono hn).2 p hp
   .rw[q5U.1 hp];exact hx.mono (by omega) (by omega)
 refine h.set hn ?_ _;show SurfG (n+1) (oS s P);unfold oS;split
 .exact hx.mir.mono (by omega) (by omega)
 split
 .exact hx.mov hn (Vc _)
 split
 .exact(hx.ins hn hc).1
 .exact hx.tl hn hc
def pilP(h w:Rat)(i j:Nat):j2:=if i=1/\j=1 then(((((2*i:Nat):Int):Rat),(((2*j:Nat):Int):Rat),h),w)else(((((2*i:Nat):Int):Rat),(((2*j:Nat):Int):Rat),((0:Int):Rat)),((1:Int):Rat))
def pilS(h w:Rat):qu:=(2,2,kA,kA,qt (λi=>qt (pilP h w i) 3) 3)
def pilH(s:jT):Rat:=((1+qf s 4:Int):Rat)/((2:Int):Rat)
def pilW(s:jT):Rat:=((1+qf (qw s) 2:Int):Rat)
def pilD(s:jT):qu:=if qf (qw (qw s)) 2=1 then qD (pilS (-pilH s) (pilW s))else mirU (pilS (-pilH s) (pilW s))
def pilV(s:jT):List jz:=[(pilS (pilH s) (pilW s),nmU),(pilD s,nmD)]
def pilT(s:jT):jT:=qw (qw (qw s))
def hV(a:Fin 4):Rat:=((1+(a.1:Int):Int):Rat)/((2:Int):Rat)
def wV(a:Fin 2):Rat:=((1+(a.1:Int):Int):Rat)
def pilQ(a:Fin 4)(c:Fin 2)(b:Bool):List jz:=[(pilS (hV a) (wV c),nmU),(if b=true then qD (pilS (-hV a) (wV c))else mirU (pilS (-hV a) (wV c)),nmD)]
theorem UR(s:jT): ∃a c b,pilV s=pilQ a c b:=by
 have h1:=AU s (m:=4) (by omega);have h2:=AU (qw s) (m:=2) (by omega);refine⟨⟨(qf s 4).toNat,by omega⟩,⟨(qf (qw s) 2).toNat,by omega⟩,decide (qf (qw (qw s)) 2=1),?_⟩;have e1:pilH s=hV ⟨(qf s 4).toNat,by omega⟩:=by unfold pilH hV;rw[show(((qf s 4).toNat:Nat):Int)=qf s 4 by omega]
 have e2:pilW s=wV ⟨(qf (qw s) 2).toNat,by omega⟩:=by unfold pilW wV;rw[show(((qf (qw s) 2).toNat:Nat):Int)=qf (qw s) 2 by omega]
 unfold pilV pilQ pilD;rw[<-e1,<-e2];simp only[decide_eq_true_eq]
theorem q4P: ∀a c b,(jI (pilQ a c b) 0).1.length=0:=by decide+kernel
theorem q4Q(s:jT):(jI (pilV s) 0).1.length=0:=by
 obtain⟨a,c,b,e⟩:=UR s;rw[e];exact q4P a c b
theorem Up: ∀a,((hV a).num.natAbs<2^4/\(hV a).den<=2^4)/\((-hV a).num.natAbs<2^4/\(-hV a).den<=2^4):=by decide+kernel
theorem hV_b(a:Fin 4):Bnd .rat (.n 4) (hV a)/\Bnd .rat (.n 4) (-hV a):=⟨rbd (Up a).1,rbd (Up a).2⟩
theorem Ve: ∀a,((wV a).num.natAbs<2^4/\(wV a).den<=2^4)/\0<wV a:=by decide+kernel
theorem wV_b(a:Fin 2):Bnd .rat (.n 4) (wV a)/\0<wV a:=⟨rbd (Ve a).1,(Ve a).2⟩
theorem Ry{h w:Rat}(hh:Bnd .rat (.n 4) h)(hw:Bnd .rat (.n 4) w)(hp:0<w):SurfG 0 (pilS h w):=by
 refine⟨rfl,rfl,rfl,.inl ⟨rfl,rfl⟩,?_⟩;refine MatB.tab (R:=3) λi hi=>⟨rfl,λp hp2=>?_⟩
 obtain⟨j,hj,rfl⟩:=zg hp2
 have i2: ∀k:Nat,k<3->Bnd .rat (.n 4) (((2*k:Nat):Int):Rat):=λk hk=>by
  have:k=0\/k=1\/k=2:=by omega
  rcases this with rfl|rfl|rfl<;>exact rbd (by decide+kernel)
 unfold pilP;split
 .exact⟨hp,⟨i2 i hi,i2 j hj,hh⟩,hw⟩
 .exact⟨show(0:Rat)<((1:Int):Rat) by decide+kernel,⟨i2 i hi,i2 j hj,show Bnd .rat (.n 4) ((0:Int):Rat)from rbd (by decide+kernel)⟩,show Bnd .rat (.n 4) ((1:Int):Rat)from rbd (by decide+kernel)⟩
theorem Dk(s:jT):PanG 0 (pilV s):=by
 obtain⟨a,c,b,e⟩:=UR s;rw[e];refine⟨q6d 2,λp hp=>?_⟩;have hw:=wV_b c;have h1:=Ry (hV_b a).1 hw.1 hw.2;have h2:=Ry (hV_b a).2 hw.1 hw.2;simp only[pilQ,q5O,q5W,or_false]at hp;rcases hp with rfl|rfl
 .exact h1
 .show SurfG 0 (if b=true then _ else _)
  split
  .exact h2.swap rfl
  .exact h2.mirU0
end
section
theorem O2{α:Type}(l:List α)(d:α):l.reverse=qt (λj=>l.getD (l.length-1-j) d) l.length:=by
 refine List.ext_getElem (by rw[ja,List.length_reverse]) λi h1 h2=>?_
 rw[List.length_reverse]at h1;have h3:=Bu (f:=λj=>l.getD (l.length-1-j) d) (d:=d) h1;rw[gtD h2]at h3;rw[h3,List.getElem_reverse,gtD (by omega)]
theorem NQ{α β:Type}(f:Nat->α)(g:α->β): ∀n,(qt f n).map g=qt (λi=>g (f i)) n
 |0=>rfl
 |n+1=>by rw[qt,qt,List.map_append,NQ f g n];rfl
theorem T8(kk:List Rat):vo kk=qt (λj=>mir1 kk (kk.getD (kk.length-1-j) 0)) kk.length:=by rw[vo,O2 kk 0,NQ]
section
variable {kk l:List Rat} {i:Int}
theorem mk_s(h:l=qt (λj=>mir1 kk (kk.getD (kk.length-1-j) 0)) ((kk.length:Int) -1-i).toNat)(h0:0<=i)(hi:i<(kk.length:Int)):
  l++[kk.getD 0 0+kk.getD (kk.length-1) 0-kk.getD i.toNat 0]=qt (λj=>mir1 kk (kk.getD (kk.length-1-j) 0)) ((kk.length:Int) -1-(i-1)).toNat:=by
 rw[h,show((kk.length:Int) -1-(i-1)).toNat=((kk.length:Int) -1-i).toNat+1 by omega,qt,show kk.length-1-((kk.length:Int) -1-i).toNat=i.toNat by omega];rfl
theorem mk_e(h:l=qt (λj=>mir1 kk (kk.getD (kk.length-1-j) 0)) ((kk.length:Int) -1-i).toNat)(h0: ¬0<=i)(h1: -1<=i):l=vo kk:=by
 rw[T8,h,show((kk.length:Int) -1-i).toNat=kk.length by omega]
end
section
variable {c:j7} {l:List j2} {i:Int}
theorem mc_s(h:l=qt (λj=>c.2.2.getD (c.2.2.length-1-j) jt) ((c.2.2.length:Int) -1-i).toNat)(h0:0<=i)(hi:i<(c.2.2.length:Int)):
  l++[c.2.2.getD i.toNat jt]=qt (λj=>c.2.2.getD (c.2.2.length-1-j) jt) ((c.2.2.length:Int) -1-(i-1)).toNat:=by
 rw[h,show((c.2.2.length:Int) -1-(i-1)).toNat=((c.2.2.length:Int) -1-i).toNat+1 by omega,qt,show c.2.2.length-1-((c.2.2.length:Int) -1-i).toNat=i.toNat by omega]
theorem mc_e(h:l=qt (λj=>c.2.2.getD (c.2.2.length-1-j) jt) ((c.2.2.length:Int) -1-i).toNat)(h0: ¬0<=i)(h1: -1<=i):(c.1,vo c.2.1,l)=jk c:=by
 rw[jk,O2 c.2.2 jt,h,show((c.2.2.length:Int) -1-i).toNat=c.2.2.length by omega]
end
section
variable {x y:j7} {q m:Rat} {j:Nat}
theorem fc_1(h:x.1≠y.1\/x.2.2.length≠y.2.2.length\/ ¬jK x.2.1=jK y.2.1):((0,false):Rat×Bool)=vK x y q:=by
 rw[vK,if_neg]
 rintro⟨h1,h2,h3,_⟩
 rcases h with h|h|h
 .exact h h1
 .exact h h2
 .exact h h3
theorem fc_2(hw:wtsN x.2.2 y.2.2 j=true)(hj:j<x.2.2.length)(e: ¬(x.2.2.getD j jt).2*(y.2.2.getD 0 jt).2=(y.2.2.getD j jt).2*(x.2.2.getD 0 jt).2):((0,false):Rat×Bool)=vK x y q:=by
 rw[vK,if_neg]
 rintro⟨_,_,_,h4⟩
 rw[(N1 hw (decide_eq_false e) _ hj).1]at h4;cases h4
theorem fc_3(h1: ¬x.1≠y.1)(h2: ¬x.2.2.length≠y.2.2.length)(h3:jK x.2.1=jK y.2.1)(hm:m=mxN x.2.2 y.2.2 j)(hw:wtsN x.2.2 y.2.2 j=true)(hj:j=x.2.2.length):(m,decide (qL m q<=0))=vK x y q:=by
 subst hj;rw[vK,if_pos ⟨Decidable.not_not.1 h1,Decidable.not_not.1 h2,h3,hw⟩,hm];simp only[Nu]
theorem q1f{m:Nat}(hx: ∀u∈x.2.2,Bnd qi (j5 m) u)(hy: ∀u∈y.2.2,Bnd qi (j5 m) u):Bnd .rat (.n (12*m+8)) (vK x y q).1:=by
 unfold vK;split
 .exact Ie hx hy _
 .exact qK _
theorem q3R{bb:List Bd}(hx:Bnds [vj,vj,.rat] bb (x,y,m)):Bnd .rat (.n (12*max (b0 bb).r.r.mx (b1 bb).r.r.mx+8)) (vK x y q).1:=
 q1f (CQ (Bnds.h3 hx).1.pr.2.pr.2 (q6Q _ _)) (CQ (Bnds.h3 hx).2.1.pr.2.pr.2 (q6R _ _))
end
theorem sq_b{b c:Bd}{p q:V3}(hp:Bnd qV b p)(hq:Bnd qV c q):Bnd .rat (.n (6*(b.mx+c.mx+1)+2)) (dotQ (subV p q) (subV p q)):=by
 have h:=Fu hp hq;refine jL (DM h h) ?_;simp only[Bd.nb,Bd.mx];omega
theorem q2X{x:qu}(h:SurfP x)(k:Int):(WV.tup [.agg [.dt vj bCrP (ju x k)],.one (.dt (.int .i64) (.n 8) 0)]).ok:=λy hy=>by
 simp only[q5O,q5W,or_false]at hy;rcases hy with rfl|rfl
 .exact v9 (h.side k)
 .exact⟨show Int.natAbs 0<=8 by decide,rfl⟩
section
variable {P:List jz} {sq m m0:Rat} {i j:Nat} {k:Int} {out:List Diag}
theorem cz(h:out=vx P i)(hi:i=P.length)(c: ¬0<out.length): ∀j,j<P.length-> ¬jj (P.getD j zPan).1≠0:=by subst hi h;exact Qu _ c
theorem mi_d:(decide (((i%4:Nat):Int)<2))=decide (i%4<2):=decide_eq_decide.2 (by omega)
theorem fi_y(e:decide (i%4<2)=decide (j%4<2)):fitI P sq i j=vK (bcur P i) (jk (bcur P j)) sq:=by unfold fitI KN;rw[mi_d,mi_d,if_pos e]
theorem fi_n(e: ¬decide (i%4<2)=decide (j%4<2)):fitI P sq i j=vK (bcur P i) (bcur P j) sq:=by unfold fitI KN;rw[mi_d,mi_d,if_neg e]
theorem ir_y{F:Rat×Bool}(f:fitI P sq i j=F)(h:(k,m)=inN P sq i m0 j)(c:F.2=true)(e: ¬j=i):(k+1,maxQ m F.1)=inN P sq i m0 (j+1):=by
 subst f;exact in_y h c λd=>e d.symm
theorem ir_n{F:Rat×Bool}(f:fitI P sq i j=F)(h:(k,m)=inN P sq i m0 j)(c: ¬F.2=true):(k,m)=inN P sq i m0 (j+1):=by
 subst f;exact in_n h λd=>c d.1
theorem ir_e(h:(k,m)=inN P sq i m0 j)(e:j=i):(k,m)=inN P sq i m0 (j+1):=in_n h λd=>d.2 e.symm
theorem or_1{m2:Rat}(h:(out,m)=jU P sq i)(c: ¬pntC (bcur P i)=true)(hk:(k,m2)=inN P sq i m j)(hj:j=4*P.length)(e: ¬k≠1):(out,m2)=jU P sq (i+1):=by subst hj;exact UM h c hk e
theorem or_2{m2:Rat}(h:(out,m)=jU P sq i)(c: ¬pntC (bcur P i)=true)(hk:(k,m2)=inN P sq i m j)(hj:j=4*P.length)(e:k≠1):(out++[((30:Int),(-1:Int),((i/4:Nat):Int),(-1:Int),((i%4:Nat):Int))],m2)=jU P sq (i+1):=by subst hj;exact UN h c hk e
theorem er_y(h:out=vx P i)(c:jj (P.getD i zPan).1≠0):out++[(jj (P.getD i zPan).1,(-1:Int),(i:Int),(-1:Int),(-1:Int))]=vx P (i+1):=Qw h c
end
end
section
theorem QA{b:Bd}{p:F4}{m:Nat}(h:Bnd jx b p)(hm:b.mx<=m):Bnd jx (bF4 m) p:=by
 have h1:=h.pr;have h2:=h1.2.pr;have h3:=h2.2.pr;have a1:=b.l_mx;have a2:=b.r_mx;have a3:=b.r.l_mx;have a4:=b.r.r_mx;have a5:=b.r.r.l_mx;have a6:=b.r.r.r_mx
 have w: ∀{c:Bd}{x:Rat},Bnd .rat c x->c.mx<=m->Bnd .rat (.n m) x:=λhx hm=>jL hx (q6e (Bd.nb_mx _) hm)
 exact⟨w h1.1 (by omega),w h2.1 (by omega),w h3.1 (by omega),w h3.2 (by omega)⟩
theorem E5{b:Bd}{p:V3}{m:Nat}(h:Bnd qV b p)(hm:b.mx<=m):Bnd qV (bV3 m) p:=by
 have h2:=h.v3;exact⟨jL h2.1 hm,jL h2.2.1 hm,jL h2.2.2 hm⟩
theorem Jd{b:Bd}{q:Mapp}{m:Nat}(h:Bnd Ax b q)(hm:b.mx<=m):Bnd Ax (Ee m) q:=by
 have h1:=h.pr;have h2:=h1.1.pr;have h3:=h2.2.pr;have a:=b.l_mx;have c:=b.r_mx;have d:=b.l.l_mx;have e:=b.l.r_mx;have f:=b.l.r.l_mx;have g:=b.l.r.r_mx
 exact⟨⟨E5 h2.1 (by omega),E5 h3.1 (by omega),E5 h3.2 (by omega)⟩,E5 h1.2 (by omega)⟩
theorem Sc{a c:Nat}{p:V3}(h:Bnd qV (bV3 a) p)(hm:a<=c):Bnd qV (bV3 c) p:=⟨qQ h.1 hm,qQ h.2.1 hm,qQ h.2.2 hm⟩
theorem q3d{b c:Bd}{m:Mapp}{p:V3}(h:Bnd Ax b m)(hp:Bnd qV c p):Bnd qV (bV3 (3*(b.mx+c.mx)+2)) (IG m p):=by
 have h1:=Jd h (q6d _);have h2:=E5 hp (q6d _);have d: ∀{y:V3},Bnd qV (bV3 b.mx) y->Bnd .rat (.n (3*(b.mx+c.mx)+2)) (dotQ y p):=λhy=>jL (DM hy h2) (by simp only[Bd.nb,Bd.mx];omega)
 exact⟨d h1.1.1,d h1.1.2.1,d h1.1.2.2⟩
theorem q3m{b c:Bd}{m:Mapp}{p:V3}(h:Bnd Ax b m)(hp:Bnd qV c p):Bnd qV (bV3 (4*b.mx+3*c.mx+3)) (appV m p):=
 Sc (L6 (Jd h (q6d _)) (E5 hp (q6d _))) (by omega)
theorem Rf{b c:Bd}{m:Mapp}{l:List j2}(hl:Bnd (.sl qi) b l)(h:Bnd Ax c m):Bnd (.sl qi) (.s b.len (j5 (4*c.mx+3*b.mx+3))) (qt (λi=>movP m (l.getD i jt)) l.length):=by
 refine⟨by rw[ja];exact hl.sl.1,λp hp=>?_⟩;obtain⟨i,hi,rfl⟩:=zg hp;have h1:=Dh (CQ hl (q6d _)) i;exact⟨Sc (L6 (Jd h (q6d _)) h1.1) (by omega),qQ h1.2 (by omega)⟩
theorem Re{b c:Bd}{m:Mapp}{y:j7}(hy:Bnd vj b y)(h:Bnd Ax c m):Bnd vj (.p b.l (.p b.r.l (.s b.r.r.len (j5 (4*c.mx+3*b.r.r.mx+3))))) (movC y m):=by
 have h1:=hy.pr;have h2:=h1.2.pr;exact⟨h1.1,h2.1,Rf h2.2 h⟩
theorem Iy{b:Bd}{x:qu}(h:Bnd qH b x)(i:Nat):Bnd (.sl qi) (.s b.r.r.r.r.e.len (j5 b.r.r.r.r.mx)) (j4 x i):=by
 have h1:=h.pr.2.pr.2.pr.2.pr.2;have m1:=q6e (mx_e b.r.r.r.r.e) (mx_e b.r.r.r.r);unfold j4;by_cases hi:i<x.2.2.2.2.length
 .rw[gtD hi]
  have h2:=h1.sl.2 _ (q6M hi);exact⟨h2.sl.1,CQ h2 (mx_e _)⟩
 .rw[q5y,q5D (by omega)]
  exact⟨q6A _,λy hy=>by cases hy⟩
theorem Gl{b:Bd}{x:qu}(h:Bnd qH b x):x.2.2.2.2.length<=b.r.r.r.r.len:=h.pr.2.pr.2.pr.2.pr.2.sl.1
def bSwp(b:Bd):Bd:= .p b.r.l (.p b.l (.p b.r.r.r.l (.p b.r.r.l (.s b.r.r.r.r.e.len (.s b.r.r.r.r.len (j5 b.r.r.r.r.mx))))))
theorem IF{b:Bd}{x:qu}(h:Bnd qH b x):Bnd qH (bSwp b) (qD x):=by
 have h1:=h.pr;have h2:=h1.2.pr;have h3:=h2.2.pr;have h4:=h3.2.pr;refine⟨h2.1,h1.1,h4.1,h3.1,?_,λr hr=>?_⟩
 .show(swN x (j4 x 0).length).length<=_
  rw[Bt];exact(Iy h 0).1
 .replace hr:r∈swN x (j4 x 0).length:=hr
  rw[Gq]at hr;obtain⟨j,hj,rfl⟩:=zg hr;refine⟨by rw[ja];exact Gl h,λp hp=>?_⟩;obtain⟨i,hi,rfl⟩:=zg hp;exact Dh (Iy h i).2 j
def bWr(b c:Bd):Bd:= .p b.l (.p c.e.l (.p b.r.r.l (.p c.e.r.l (.s c.len c.e.r.r))))
theorem wr_b{b c:Bd}{x:qu}{l:List j7}(h:Bnd qH b x)(hl:Bnd (.sl vj) c l)(h0:0<l.length):Bnd qH (bWr b c) (wrV x l):=by
 have h1:=h.pr;have h2:=h1.2.pr;have h3:=h2.2.pr;have g: ∀i,i<l.length->Bnd vj c.e (l.getD i zCur):=λi hi=>by rw[gtD hi];exact hl.sl.2 _ (q6M _)
 have g0:=(g 0 h0).pr;refine⟨h1.1,g0.1,h3.1,g0.2.pr.1,by show(qt _ l.length).length<=_;rw[ja];exact hl.sl.1,λr hr=>?_⟩;obtain⟨i,hi,rfl⟩:=zg hr;exact(g i hi).pr.2.pr.2
def bRwS(b:Bd):Bd:= .p b.r.l (.p b.r.r.r.l (.s b.r.r.r.r.e.len (j5 b.r.r.r.r.mx)))
theorem rw_b{b:Bd}{x:qu}(h:Bnd qH b x)(i:Nat):Bnd vj (bRwS b) (rwC x i):=⟨h.pr.2.pr.1,h.pr.2.pr.2.pr.2.pr.1,Iy h i⟩
theorem S5{b:Bd}{n k:Nat}{f:Nat->j7}(hn:n<=k)(h: ∀i,Bnd vj b (f i)):Bnd (.sl vj) (.s k b) (qt f n):=
 ⟨by rw[ja];exact hn,λy hy=>by obtain⟨i,_,rfl⟩:=zg hy;exact h i⟩
def bMiC(b:Bd):Bd:= .p b.l (.p (.s b.r.l.len (.n (4*b.r.l.mx+4))) b.r.r)
theorem q4D{b:Bd}{c:j7}(h:Bnd vj b c):Bnd vj (bMiC b) (jk c):=by
 have h1:=h.pr;have h2:=h1.2.pr;refine⟨h1.1,M7 h2.1,?_⟩;have h3:=h2.2;generalize b.r.r=q at h3⊢
 cases q with
 |s n e=>exact⟨by show c.2.2.reverse.length<=n;rw[List.length_reverse];exact h3.1,λy hy=>h3.2 y (List.mem_reverse.1 hy)⟩
 |_=>exact h3.elim
def bMiV(b:Bd):Bd:=bWr b (.s b.r.r.r.r.len (bMiC (bRwS b)))
theorem UB{b:Bd}{x:qu}(h:Bnd qH b x)(h0:0<x.2.2.2.2.length):Bnd qH (bMiV b) (mirV x):=
 wr_b h (S5 (Gl h) λi=>q4D (rw_b h i)) (by rw[ja];exact h0)
def bMvC(b c:Bd):Bd:= .p b.l (.p b.r.l (.s b.r.r.len (j5 (4*c.mx+3*b.r.r.mx+3))))
def bMvV(b c:Bd):Bd:=bWr b (.s b.r.r.r.r.len (bMvC (bRwS b) c))
theorem q4F{b c:Bd}{x:qu}{m:Mapp}(h:Bnd qH b x)(hm:Bnd Ax c m)(h0:0<x.2.2.2.2.length):Bnd qH (bMvV b c) (movV x m):=
 wr_b h (S5 (Gl h) λi=>Re (rw_b h i) hm) (by rw[ja];exact h0)
def innB(k:List Rat)(t:Rat):Bool:=decide (qL (k.getD 0 0) t<0/\qL t (k.getD (k.length-1) 0)<0)
theorem q44{k:List Rat}{t:Rat}(h:qL (k.getD 0 0) t<0):decide (qL t (k.getD (k.length-1) 0)<0)=innB k t:=decide_eq_decide.2 ⟨λc=>⟨h,c⟩,λc=>c.2⟩
theorem q43{k:List Rat}{t:Rat}(h: ¬qL (k.getD 0 0) t<0):false=innB k t:=(decide_eq_false λc=>h c.1).symm
theorem mixb{bb:List Bd}{f:Rat}{x y:F4}(hx:Bnds [.rat,jx,jx] bb (f,x,y)):Bnd jx (bF4 (3*max (b1 bb).mx (b2 bb).mx+(b0 bb).nb+2)) (mixF f x y):=by
 have h:=Bnds.h3 hx;exact UC (jL h.1 (q6d _)) (QA h.2.1 (q6Q _ _)) (QA h.2.2 (q6R _ _))
theorem F7(k:List Rat)(t:Rat): ∀n,(vu k t n).1.length=n+(if(vu k t n).2=true then 1 else 0)
 |0=>rfl
 |n+1=>by
  have ih:=F7 k t n;rw[vu];split
  .rename_i h
   rw[h.1]at ih;simp only[q5G,ih,q5H,q5K];simp
  .simp only[q5G,ih,q5H,q5K]
   omega
theorem G1{m:Nat}{k:List Rat}{t:Rat}(hk: ∀x∈k,Bnd .rat (.n m) x)(ht:Bnd .rat (.n m) t): ∀n,∀y∈(vu k t n).1,Bnd .rat (.n m) y
 |0,y,hy=>by cases hy
 |n+1,y,hy=>by
  rw[vu]at hy;split at hy
  .rcases q5N.1 hy with hy|hy
   .rcases q5N.1 hy with hy|hy
    .exact G1 hk ht n y hy
    .rw[q5U.1 hy];exact ht
   .rw[q5U.1 hy];exact DP hk n
  .rcases q5N.1 hy with hy|hy
   .exact G1 hk ht n y hy
   .rw[q5U.1 hy];exact DP hk n
theorem LV(k:List Rat)(t:Rat):(vY k t).length=k.length+1:=by
 have h:=F7 k t k.length;unfold vY;split
 .rename_i e;rw[e]at h;rw[q5G,h];rfl
 .rename_i e;rw[h,if_pos (by simpa using e)]
theorem QR{b c:Bd}{k:List Rat}{t:Rat}(hk:Bnd (.sl .rat) b k)(ht:Bnd .rat c t):Bnd (.sl .rat) (.s (b.len+1) (.n (b.mx+c.mx))) (vY k t):=by
 have h1: ∀x∈k,Bnd .rat (.n (b.mx+c.mx)) x:=λx hx=>jL (V2 hk x hx) (by simp only[Bd.nb];omega)
 have h2:Bnd .rat (.n (b.mx+c.mx)) t:=jL ht (q6e (Bd.nb_mx _) (by omega));refine⟨by rw[LV];have:=hk.sl.1;omega,λy hy=>?_⟩;unfold vY at hy;split at hy
 .rcases q5N.1 hy with hy|hy
  .exact G1 h1 h2 _ y hy
  .rw[q5U.1 hy];exact h2
 .exact G1 h1 h2 _ y hy
section
variable {k l:List Rat} {t:Rat} {i:Nat} {d:Bool}
theorem ik_1(h:(l,d)=vu k t i)(hd:d=false)(c:qL t (k.getD i 0)<0):(l++[t]++[k.getD i 0],true)=vu k t (i+1):=by
 subst hd;rw[vu,<-h,if_pos ⟨rfl,c⟩]
theorem ik_2(h:(l,d)=vu k t i)(c: ¬(d=false/\qL t (k.getD i 0)<0)):(l++[k.getD i 0],d)=vu k t (i+1):=by
 rw[vu,<-h,if_neg c]
theorem ik_3(h:(l,d)=vu k t i)(hi:i=k.length)(hd:d=false):l++[t]=vY k t:=by subst hi;rw[vY,<-h,if_pos hd]
theorem ik_4(h:(l,d)=vu k t i)(hi:i=k.length)(hd: ¬d=false):l=vY k t:=by subst hi;rw[vY,<-h,if_neg hd]
theorem q1C(h:(l,d)=vu k t i):l.length<=i+1:=by
 have:=F7 k t i;rw[<-h]at this
 replace this:l.length=i+(if d=true then 1 else 0):=this
 split at this<;>omega
end
section
variable {c:j7} {t:Rat} {l:List j2} {i:Nat}
theorem InsO.f(h:InsO c t):c.1=2/\c.2.1.length=c.2.2.length+3/\3<=c.2.2.length/\c.2.2.length<=4/\jG c.2.1 c.1 t=qW c.2.1 t c.2.1.length+2/\qW c.2.1 t c.2.1.length<=1/\jG c.2.1 c.1 t<c.2.2.length:=by
 obtain⟨h1,rfl,⟨e,f⟩|⟨e,f⟩⟩:=h
 .have a:=Ut
  rw[h1,e,show qW kA hlf kA.length=0 from a.2,a.1,f];decide
 .have a:=Uu
  rw[h1,e,show qW kB hlf kB.length=1 from a.2,a.1,f];decide
theorem InsO.inn(h:InsO c t):innB c.2.1 t=true:=by
 obtain⟨h1,rfl,⟨e,f⟩|⟨e,f⟩⟩:=h<;>rw[e]<;>decide+kernel
theorem ip_1(hl:l=qt (insP c t) i)(h:(i:Int)<=((jG c.2.1 c.1 t:Nat):Int) -c.1):l++[c.2.2.getD i jt]=qt (insP c t) (i+1):=by rw[qt,insP,if_pos h,hl]
theorem ip_2(hl:l=qt (insP c t) i)(h: ¬(i:Int)<=((jG c.2.1 c.1 t:Nat):Int) -c.1)(h2:((jG c.2.1 c.1 t:Nat):Int) -((qW c.2.1 t c.2.1.length:Nat):Int)<(i:Int)):l++[c.2.2.getD (i-1) jt]=qt (insP c t) (i+1):=by rw[qt,insP,if_neg h,if_pos h2,hl]
theorem ip_3(hl:l=qt (insP c t) i)(h: ¬(i:Int)<=((jG c.2.1 c.1 t:Nat):Int) -c.1)(h2: ¬((jG c.2.1 c.1 t:Nat):Int) -((qW c.2.1 t c.2.1.length:Nat):Int)<(i:Int)):
  l++[jJ (mixF ((t-c.2.1.getD i 0)/(c.2.1.getD (i+c.1.toNat) 0-c.2.1.getD i 0)) (jN (c.2.2.getD (i-1) jt)) (jN (c.2.2.getD i jt)))]=qt (insP c t) (i+1):=by rw[qt,insP,if_neg h,if_neg h2,hl]
theorem ip_e(hl:l=qt (insP c t) i)(hi:i=c.2.2.length+1):(c.1,vY c.2.1 t,l)=insC c t:=by subst hi;rw[insC,hl]
end
def bInC(b:Bd):Bd:= .p b.l (.p (.s 16 (.n (b.r.l.mx+64))) (.s 16 (j5 (12*b.r.r.mx+10))))
theorem OT{b:Bd}{c:j7}{t:Rat}(h:Bnd vj b c)(ho:InsO c t):Bnd vj (bInC b) (insC c t):=by
 have h1:=h.pr;have h2:=h1.2.pr;have ht:Bnd .rat (.n 64) t:=by rw[ho.2.1];exact qQ Ky (by decide)
 have hk:=QR h2.1 ht
 have hl:c.2.1.length<=7/\c.2.2.length<=4:=by
  rcases ho.2.2 with⟨e,f⟩|⟨e,f⟩<;>rw[e,f]<;>decide
 have hp:=CQ h2.2 (q6d _);refine⟨h1.1,⟨by rw[show(insC c t).2.1=vY c.2.1 t from rfl,LV];omega,hk.2⟩,by rw[show(insC c t).2.2=qt (insP c t) (c.2.2.length+1)from rfl,ja];omega,λp hp2=>?_⟩;obtain⟨i,hi,rfl⟩:=zg hp2;rcases QS ho (i:=i) (by omega)with⟨j,hj,e⟩|⟨j,hj,e⟩
 .rw[e];exact Gf (Dh hp j) (by omega)
 .rw[e];exact R9 (Dh hp j) (Dh hp (j+1))
def bInV(b:Bd):Bd:=bWr b (.s b.r.r.r.r.len (bInC (bRwS b)))
def InsS(x:qu)(t:Rat):Prop:=0<x.2.2.2.2.length/\ ∀i,i<x.2.2.2.2.length->InsO (rwC x i) t
theorem Ur{b:Bd}{x:qu}{t:Rat}(h:Bnd qH b x)(ho:InsS x t):Bnd qH (bInV b) (insV x t):=by
 refine wr_b h ⟨by rw[ja];exact Gl h,λy hy=>?_⟩ (by rw[ja];exact ho.1);obtain⟨i,hi,rfl⟩:=zg hy;exact OT (rw_b h i) (ho.2 i hi)
end
section
def RecN(R C:Nat)(x:qu):Prop:=x.2.2.2.2.length=R/\ ∀i,i<R->(j4 x i).length=C
def RecP(x:qu):Prop:= ∃R C,0<R/\0<C/\RecN R C x
section
variable {x:qu}
theorem RecP.r(h:RecP x):0<x.2.2.2.2.length:=by obtain⟨R,C,h1,h2,h3⟩:=h;rw[h3.1];exact h1
theorem RecP.e(h:RecP x)(i:Nat)(hi:i<x.2.2.2.2.length):(j4 x i).length=(j4 x 0).length:=by
 obtain⟨R,C,h1,h2,h3⟩:=h;rw[h3.1]at hi;rw[h3.2 0 h1,h3.2 i hi]
theorem RecP.swap(h:RecP x):RecP (qD x):=by
 obtain⟨R,C,h1,h2,h3⟩:=h
 have e:(qD x).2.2.2.2=qt (λj=>qt (λi=>(j4 x i).getD j jt) R) C:=by
  show swN x (j4 x 0).length=_;rw[Gq,h3.2 0 h1,h3.1]
 refine⟨C,R,h2,h1,by rw[e,ja],λi hi=>?_⟩;rw[j4,e,Bu hi,ja]
theorem RN{f:Nat->j7}{R C:Nat}(h1:0<R)(h2:0<C)(h: ∀i,i<R->(f i).2.2.length=C):RecP (wrV x (qt f R)):=by
 have e:(wrV x (qt f R)).2.2.2.2=qt (λi=>(f i).2.2) R:=by rw[IQ h1]
 refine⟨R,C,h1,h2,by rw[e,ja],λi hi=>?_⟩;rw[j4,e,Bu hi,h i hi]
theorem RecP.mir(h:RecP x):RecP (mirV x):=by
 obtain⟨R,C,h1,h2,h3⟩:=h;unfold mirV;rw[h3.1];exact RN h1 h2 λi hi=>by show(j4 x i).reverse.length=C;rw[List.length_reverse,h3.2 i hi]
theorem RecP.ins{t:Rat}(h:RecP x):RecP (insV x t):=by
 obtain⟨R,C,h1,h2,h3⟩:=h;unfold insV;rw[h3.1];exact RN (C:=C+1) h1 (by omega) λi hi=>by show(qt _ ((j4 x i).length+1)).length=C+1;rw[ja,h3.2 i hi]
theorem MatB.rcp{m R C:Nat}(h:MatB m R C x.2.2.2.2)(h1:0<R)(h2:0<C):RecP x:=⟨R,C,h1,h2,h.1,λi hi=>h.rl hi⟩
theorem SurfG.rcp{n:Nat}(h:SurfG n x):RecP x:=h.mat.rcp (by have:=h.r3;omega) (by decide)
theorem SurfG.insS{n:Nat}(h:SurfG n x)(hn:n<=1)(hc: ¬jj x≠0):InsS (qD x) hlf:=by
 have hs:=h.mat.swap (by have:=h.r3;omega);refine⟨by rw[hs.1];decide,λi hi=>(h.ins hn hc).2 i (by rw[hs.1]at hi;exact hi)⟩
variable {l:List j7} {r:List (List j2)} {i:Nat}
theorem wr_s(h:r=qt (λi=>(l.getD i zCur).2.2) i):r++[(l.getD i zCur).2.2]=qt (λi=>(l.getD i zCur).2.2) (i+1):=ME (f:=λi=>(l.getD i zCur).2.2) h
theorem wr_e(h:r=qt (λi=>(l.getD i zCur).2.2) i)(hi:i=l.length):(x.1,(l.getD 0 zCur).1,x.2.2.1,(l.getD 0 zCur).2.1,r)=wrV x l:=by subst hi;rw[wrV,h]
theorem mv_s{f:Nat->j7}(h:l=qt f i):l++[f i]=qt f (i+1):=ME h
end
theorem one0:(WC.one (.dt (.int .i64) (.n 8) (0:Int))).ok:=q8 (show Int.natAbs 0<=8 by decide) rfl
theorem q2Z{b:Bd}{x:qu}(h:Bnd qH b x)(i:Nat):(WV.c (.agg [.dt vj (bRwS b) (rwC x i)])).ok:=qB (rw_b h i)
end
section
theorem en_s{l:List Rat}{i:Nat}{n:Int}(h:l=kA.take i)(hi:i<6)(hn:n=2):l++[((Int.tdiv (i:Int) (n+1):Int):Rat)]=kA.take (i+1):=by
 subst h hn;have:i=0\/i=1\/i=2\/i=3\/i=4\/i=5:=by omega
 rcases this with rfl|rfl|rfl|rfl|rfl|rfl<;>decide+kernel
theorem kA_b:Bnd (.sl .rat) (.s 6 (.n 256)) kA:=⟨by decide,λy hy=>kC_b y (kA_C y hy)⟩
def C7(k:Nat):V3:=((([0,0,0]:List Rat).set k ((1:Int):Rat)).getD 0 0,(([0,0,0]:List Rat).set k ((1:Int):Rat)).getD 1 0,(([0,0,0]:List Rat).set k ((1:Int):Rat)).getD 2 0)
theorem Y9(k:Nat)(h:k<3):Bnd qV (bV3 2) (C7 k):=by
 have:k=0\/k=1\/k=2:=by omega
 have z:Bnd .rat (.n 2) 0:=qK _;have o:Bnd .rat (.n 2) ((1:Int):Rat):=rbd (by decide+kernel);rcases this with rfl|rfl|rfl
 .exact⟨o,z,z⟩
 .exact⟨z,o,z⟩
 .exact⟨z,z,o⟩
abbrev idMp:Mapp:=(idM,(0,0,0))
theorem id_e:(((C7 0,C7 1,C7 2),(0,0,0)):Mapp)=(idM,(0,0,0)):=by decide+kernel
theorem id_b:Bnd Ax (Ee 2) (idM,(0,0,0)):=by
 have z:Bnd .rat (.n 2) 0:=qK _;have o:Bnd .rat (.n 2) (1:Rat):=rbd (by decide+kernel);exact⟨⟨⟨o,z,z⟩,⟨z,o,z⟩,⟨z,z,o⟩⟩,⟨z,z,z⟩⟩
section
variable {s:jT} {P:List jz}
theorem od_0(h:P.length=0):s=vh s P/\P=oddV s P:=by unfold vh oddV;rw[if_pos h,if_pos h];exact⟨rfl,rfl⟩
theorem od_c(h: ¬P.length=0)(c:jj (oX s P)≠0):qw s=vh s P/\P=oddV s P:=by unfold vh oddV;rw[if_neg h,if_neg h,if_pos c,if_pos c];exact⟨rfl,rfl⟩
variable (h: ¬P.length=0) (c: ¬jj (oX s P)≠0)
include h c
theorem UG(e:oC s=0):qw (qw s)=vh s P/\P.set (oK s P) (mirV (oX s P),(P.getD (oK s P) zPan).2)=oddV s P:=by
 unfold vh oddV oS;rw[if_neg h,if_neg h,if_neg c,if_neg c,if_neg (by omega),if_neg (by omega),if_neg (by omega),if_pos e];exact⟨rfl,rfl⟩
theorem UH(e:oC s=1):qw (qw (qw s))=vh s P/\P.set (oK s P) (movV (oX s P) (upM (qw (qw s))),(P.getD (oK s P) zPan).2)=oddV s P:=by
 unfold vh oddV oS;rw[if_neg h,if_neg h,if_neg c,if_neg c,if_pos e,if_neg (by omega),if_neg (by omega),if_neg (by omega),if_pos e];exact⟨rfl,rfl⟩
theorem UI(e:oC s=2):qw (qw s)=vh s P/\P.set (oK s P) (insU (oX s P) hlf,(P.getD (oK s P) zPan).2)=oddV s P:=by
 unfold vh oddV oS;rw[if_neg h,if_neg h,if_neg c,if_neg c,if_neg (by omega),if_neg (by omega),if_neg (by omega),if_neg (by omega),if_neg (by omega),if_pos e];exact⟨rfl,rfl⟩
theorem UJ(e:oC s=3):qw (qw s)=vh s P/\P.take 1=oddV s P:=by
 unfold vh oddV;rw[if_neg h,if_neg h,if_neg c,if_neg c,if_neg (by omega),if_pos e];exact⟨rfl,rfl⟩
theorem UL(e:oC s=5):qw (qw s)=vh s P/\P++[P.getD (oK s P) zPan]=oddV s P:=by
 unfold vh oddV;rw[if_neg h,if_neg h,if_neg c,if_neg c,if_neg (by omega),if_neg (by omega),if_pos e];exact⟨rfl,rfl⟩
theorem UK(e:oC s=4):qw (qw s)=vh s P/\P.set (oK s P) (((oX s P).1,(oX s P).2.1,(oX s P).2.2.1.drop 1,(oX s P).2.2.2.1,(oX s P).2.2.2.2),(P.getD (oK s P) zPan).2)=oddV s P:=by
 unfold vh oddV oS;rw[if_neg h,if_neg h,if_neg c,if_neg c,if_neg (by omega),if_neg (by omega),if_neg (by omega),if_neg (by omega),if_neg (by omega),if_neg (by omega)];exact⟨rfl,rfl⟩
end
theorem q2c{s:jT}{b:Bd}{P:List jz}(h:Bnd Ba b s):Bnd Ba (.p b.l (.n (max b.r.nb b.l.len))) (vh s P):=by
 have h1:=DS h;have h2:=EF h1;have h3:=EF h2;unfold vh;split
 .exact q13 h
 split
 .exact h1
 split
 .exact h3
 .exact h2
abbrev bPan:Bd:= .p bSfP (.n 64)
abbrev Gr:Ty:= .pr (.sl q5d) (.sl (.int .i64))
abbrev FG:Bd:= .p (.s 4 bPan) (.s 0 (.n 0))
abbrev EV:Type:=List jz×List Int
abbrev pilC(s:jT):EV:=(pilV s,[])
abbrev oddC(s:jT)(c:EV):EV:=(oddV s c.1,[])
def NmS(P:List jz):Prop:= ∀p∈P,p.2.size<=64
theorem UP{P:List jz}{n:Nat}(h:PanG n P)(hn:n<=2)(hm:NmS P):Bnd Gr FG (P,[]):=by
 have h1:=h.ok hn;exact⟨⟨h1.1,λp hp=>⟨(h1.2 p hp).b,hm p hp⟩⟩,⟨q6A _,λy hy=>by cases hy⟩⟩
theorem NmS.at{P:List jz}(h:NmS P){i:Nat}(hi:i<P.length):(P.getD i zPan).2.size<=64:=by rw[gtD hi];exact h _ (q6M _)
theorem NmS.set{P:List jz}(h:NmS P){y:jz}(hy:y.2.size<=64)(i:Nat):NmS (P.set i y):=λp hp=>by
 rcases List.mem_or_eq_of_mem_set hp with hp|rfl
 .exact h p hp
 .exact hy
theorem NmS.odd{P:List jz}(h:NmS P)(s:jT):NmS (oddV s P):=by
 unfold oddV;split
 .exact h
 rename_i h0;have hk:=h.at (UF (s:=s) h0);split
 .exact h
 split
 .exact λp hp=>h p (q5T hp)
 split
 .intro p hp
  rcases q5N.1 hp with hp|hp
  .exact h p hp
  .rw[q5U.1 hp];exact hk
 .exact h.set (y:=(oS s P,(P.getD (oK s P) zPan).2)) hk _
def OddO(P:List jz):Prop:=PanG 1 P/\NmS P
theorem q2d{P:List jz}(h:OddO P)(s:jT):(WV.c (.agg [.dt Gr FG (oddV s P,[])])).ok:=qB (UP (h.1.odd (by decide) s) (by decide) (h.2.odd s))
theorem OddO.of{P:List jz}{n:Nat}(h:PanG n P)(hn:n<=1)(hm:NmS P):OddO P:=by
 have:n=0\/n=1:=by omega
 rcases this with rfl|rfl
 .exact⟨h.mono (by decide),hm⟩
 .exact⟨h,hm⟩
theorem Pl(s:jT):NmS (pilV s):=λp hp=>by
 simp only[pilV,q5O,q5W,or_false]at hp;rcases hp with rfl|rfl
 .show nmU.size<=64
  decide+kernel
 .show nmD.size<=64
  decide+kernel
section
variable {h w:Rat} {i j:Nat} {l:List j2}
theorem pi_1(e:l=qt (pilP h w i) j)(c:i=1)(d:j=1):l++[(((((2*i:Nat):Int):Rat),(((2*j:Nat):Int):Rat),h),w)]=qt (pilP h w i) (j+1):=by rw[qt,pilP,if_pos ⟨c,d⟩,e]
theorem pi_2(e:l=qt (pilP h w i) j)(c: ¬(i=1/\j=1)):l++[(((((2*i:Nat):Int):Rat),(((2*j:Nat):Int):Rat),((0:Int):Rat)),((1:Int):Rat))]=qt (pilP h w i) (j+1):=by rw[qt,pilP,if_neg c,e]
theorem pi_r{L:List (List j2)}(e:L=qt (λi=>qt (pilP h w i) 3) i)(e2:l=qt (pilP h w i) j)(hj:j=3):L++[l]=qt (λi=>qt (pilP h w i) 3) (i+1):=by subst hj;rw[qt,e,e2]
end
section
variable {s:jT} {A B:List (List j2)} {i:Nat}
abbrev AF(h w:Rat)(i:Nat):List (List j2):=qt (λi=>qt (pilP h w i) 3) i
theorem US{h w:Rat}(e:A=AF h w i)(hi:i=3):RecP (2,2,kA,kA,A):=by
 subst hi e;exact⟨3,3,by decide,by decide,rfl,λi hi=>by rw[j4,Bu hi,ja]⟩
theorem q2E(e:B=AF (-pilH s) (pilW s) i)(hi:i=3)(c:qf (qw (qw s)) 2=2-1):qD (2,2,kA,kA,B)=pilD s:=by
 subst hi e;rw[pilD,if_pos (show qf (qw (qw s)) 2=1 by omega)];rfl
theorem q2F(e:B=AF (-pilH s) (pilW s) i)(hi:i=3)(c: ¬qf (qw (qw s)) 2=2-1):mirU (2,2,kA,kA,B)=pilD s:=by
 subst hi e;rw[pilD,if_neg (show¬qf (qw (qw s)) 2=1 by omega)];rfl
theorem Rx(s:jT):Bnd qH bSfP (pilD s):=(((Dk s).2 (pilD s,nmD) (by simp[pilV])).P (by decide)).b
theorem UQ(e:A=AF (pilH s) (pilW s) i)(hi:i=3):(([((2,2,kA,kA,A),nmU),(pilD s,nmD)],[]):List jz×List Int)=(pilV s,[]):=by subst hi e;rfl
end
theorem q2D{s:jT}{b:Bd}(h:Bnd Ba b s):Bnd Ba (.p b.l (.n (max b.r.nb b.l.len))) (pilT s):=EF (EF (DS h))
theorem q2G(s:jT):(WV.c (.agg [.dt Gr FG (pilV s,[])])).ok:=qB (UP (Dk s) (by decide) (Pl s))
theorem NU:PanOk []:=⟨q6A _,λp hp=>by cases hp⟩
theorem q1Q(s s1 s2 s3:jT){L:List EV}(h:L=[(pilV s,[]),(oddV s1 (pilV s),[]),(oddV s3 (oddV s2 (pilV s)),[]),([],[])]): ∀i,PanOk (L.getD i ([],[])).1:=by
 subst h;intro i
 match i with
 |0=>exact(Dk s).ok (by decide)
 |1=>exact((Dk s).odd (by decide) _).ok (by decide)
 |2=>exact(((Dk s).odd (by decide) _).odd (by decide) _).ok (by decide)
 |3=>exact NU
 |n+4=>exact NU
theorem q1P{α:Type}{a b c d:α}{L:List α}(h:L=[a,b,c,d]):L.length=4:=by rw[h];rfl
theorem q0P{P:List jz}{t:Rat}(h:PanOk P):(jI P t).1.length<=16:=(LA h t).1.1
theorem cz_b:Bnd Gr FG (([],[]):EV):=⟨⟨q6A _,λp hp=>by cases hp⟩,⟨q6A _,λy hy=>by cases hy⟩⟩
theorem q4J(s s1:jT):OddO (oddV s1 (pilV s)):=OddO.of (n:=1) ((Dk s).odd (by decide) _) (by decide) ((Pl s).odd _)
theorem q4I(s:jT):OddO (pilV s):=OddO.of (n:=0) (Dk s) (by decide) (Pl s)
end
section
section
variable {P:Program}
def CO(t:Ty)(b:Bd):Nat->List WA->Option (List t.den)
 |0,[]=>some []
 |0,_::_=>none
 |n+1,l=>match cutW 400 l t.w with
  |some (m,r)=>match reify t m with
   |some (b',x,[])=>bif b'.le b then(match CO t b n r with|some xs=>some (x::xs)|none=>none)else none
   |_=>none
  |none=>none
theorem GF{t:Ty}{b:Bd}: ∀{n:Nat}{l:List WA}{xs:List t.den},CO t b n l=some xs->AImps (WAs.exp l) (je t xs)/\xs.length=n/\(WAs.ok l-> ∀x∈xs,Bnd t b x)
 |0,[],xs,h=>by simp[CO]at h;subst h;exact⟨trivial,rfl,λ_ x hx=>by simp at hx⟩
 |0,_::_,_,h=>by simp[CO]at h
 |n+1,l,xs,h=>by
  simp only[CO]at h
  cases hc:cutW 400 l t.w with
  |none=>rw[hc]at h;cases h
  |some q=>
   obtain⟨m,r⟩:=q;rw[hc]at h;simp only at h
   obtain⟨c1,c2,c3⟩:=Ab hc;split at h
   .rename_i b' x hr
    cases hb:b'.le b with
    |false=>rw[hb]at h;cases h
    |true=>
     rw[hb]at h;simp only[cond_true]at h
     cases hx:CO t b n r with
     |none=>rw[hx]at h;cases h
     |some ys=>
      rw[hx]at h;simp at h;subst h
      obtain⟨m',e1,i1,o1⟩:=vv hr;have e1:WAs.exp m=m':=by rw[e1];simp[WAs.exp]
      subst e1;obtain⟨i2,l2,o2⟩:=GF hx;refine⟨by rw[c1];exact zX i1 i2,by simp[l2],λhk y hy=>?_⟩;rcases q5O.1 hy with rfl|hy
      .exact Bnd.mono hb (o1 (c3 hk).1).1
      .exact o2 (c3 hk).2 y hy
   .cases h
theorem Vu{n:Nat}{Ks:List Nat}{st:WSt}(hk:st.Ok){k:Nat}{B B':WB}(hL:look st.L k=some B)(hi:BImp k B.exp B'.exp)(hB:B'.ok):
  EntW n Ks st ⟨st.rm,st.m,st.rL,(k,B')::st.L⟩/\(⟨st.rm,st.m,st.rL,(k,B')::st.L⟩:WSt).Ok:=by
 have hlk: ∀q b',qm ⟨st.rm,st.m,st.rL,(k,B')::st.L⟩ q=some b'->(q=k/\b'=B')\/(q≠k/\qm st q=some b'):=by
  intro q b' h;unfold qm at h;simp only[look]at h;by_cases e:k=q
  .subst e;simp at h;exact .inl ⟨rfl,h.symm⟩
  .rw[jm e]at h;exact .inr ⟨λe'=>e e'.symm,h⟩
 have hlB:qm st k=some B:=by unfold qm;rw[hL]
 refine⟨En (λt v' h=>⟨v',h,λ_ _ _ h=>h⟩) λq b' h=>?_,λt v h=>hk.m t v h,λq b' h=>?_,hk.dm,λq hq=>?_⟩
 .rcases hlk q b' h with⟨rfl,rfl⟩|⟨_,h⟩
  .exact⟨B,hlB,hi⟩
  .exact⟨b',h,λ_ _ _ h=>h⟩
 .rcases hlk q b' h with⟨rfl,rfl⟩|⟨_,h⟩
  .exact hB
  .exact hk.l q b' h
 .have h0:=hk.dl q hq
  have hne:k≠q:=λe=>by subst e;rw[h0]at hL;cases hL
  show look ((k,B')::st.L) q=none;simp only[look,jm hne,cond_false];exact h0
theorem R7{α:Type}{l:List (Nat×α)}{k q:Nat}(h:k≠q):look (l.filter λp=>!Nat.beq p.1 k) q=look l q:=by
 induction l with
 |nil=>rfl
 |cons p r ih=>
  obtain⟨a,v⟩:=p;simp only[List.filter_cons];by_cases e:a=k
  .subst e
   rw[if_neg (by simp),ih];simp only[look,jm h,cond_false]
  .rw[if_pos (by rw[jm e];rfl)]
   simp only[look,ih]
theorem Step.same{w:World}{H:Heap}{β:Bm}(k:Nat)(h:Heap.On H w):Step w H β [k] [] [] w H β:=
 ⟨rfl,rfl,rfl,q6d _,λ_ _ _=>rfl,Heap.Le.refl _,λb hb=> .inl hb,h,λ_ _=>rfl,λk hk=>by simp at hk,λk hk=>by simp at hk⟩
end
end
section
section
variable {P:Program}
def ipV(k:Nat)(t:Ty)(b:Bd)(x:t.den):WV->Option WV
 | .c (.one (.loc k' off))=>bif Nat.beq k' k&&Nat.ble off t.w then some (.c (.one (.ip t b x off)))else none
 |_=>none
theorem SZ{k:Nat}{t:Ty}{b:Bd}{x:t.den}{v v':WV}(h:ipV k t b x v=some v')(hb:Bnd t b x):RelV k (cellsC t x) none v.exp v'.exp/\v'.ok:=by
 unfold ipV at h;split at h
 .rename_i k' off
  cases hc:Nat.beq k' k&&Nat.ble off t.w with
  |false=>rw[hc]at h;cases h
  |true=>
   rw[hc]at h;simp only[cond_true,q6E]at h;subst h
   simp only[q5m]at hc;have e:=q68 hc.1;subst e
   have hle:off<=t.w:=q6a hc.2;refine⟨RW (q2O (m:=t.w-off) (by rw[jD];omega) ?_),hb,rfl⟩;exact q5Z (by rw[q5I,jD];omega)
 .cases h
def FX(k:Nat)(t:Ty)(b:Bd)(x:t.den)(ts:List Nat):List (Nat×WV)->Option (List (Nat×WV))
 |[]=>some []
 |p::r=>match FX k t b x ts r with
  |none=>none
  |some r'=>bif v8 k p.2.ids then(bif v8 p.1 ts then(match ipV k t b x p.2 with|some v=>some ((p.1,v)::r')|none=>none)else some r')else some (p::r')
theorem HT{k:Nat}{t:Ty}{b:Bd}{x:t.den}{ts:List Nat}(hb:Bnd t b x): ∀{m m':List (Nat×WV)},FX k t b x ts m=some m'->(∀p∈m,p.2.ok)-> ∀q∈m',∃p∈m,p.1=q.1/\RelV k (cellsC t x) none p.2.exp q.2.exp/\q.2.ok
 |[],m',h,_,q,hq=>by simp[FX]at h;subst h;simp at hq
 |p::r,m',h,hok,q,hq=>by
  simp only[FX]at h
  cases h1:FX k t b x ts r with
  |none=>rw[h1]at h;cases h
  |some r'=>
   rw[h1]at h;simp only at h
   have ih:=HT hb h1 (λp hp=>hok p (q5P _ hp))
   have up: ∀q∈r',∃p'∈p::r,p'.1=q.1/\RelV k (cellsC t x) none p'.2.exp q.2.exp/\q.2.ok:=λq hq=>by
    obtain⟨p',a,c⟩:=ih q hq;exact⟨p',q5P _ a,c⟩
   cases h2:v8 k p.2.ids with
   |false=>
    rw[h2]at h;simp at h;subst h
    rcases q5O.1 hq with rfl|hq
    .exact⟨q,q5Q,rfl,Gn,hok q q5Q⟩
    .exact up q hq
   |true=>
    rw[h2]at h;simp only[cond_true]at h
    cases h3:v8 p.1 ts with
    |false=>rw[h3]at h;simp at h;subst h;exact up q hq
    |true=>
     rw[h3]at h;simp only[cond_true]at h
     split at h
     .rename_i v hv
      simp only[q6E]at h;subst h
      rcases q5O.1 hq with rfl|hq
      .obtain⟨q1,q2⟩:=SZ hv hb;exact⟨p,q5Q,rfl,q1,q2⟩
      .exact up q hq
     .cases h
def Um(k:Nat)(t:Ty)(b:Bd)(ts:List Nat)(Ks:List Nat)(st:WSt):Option (List Prop×WSt):=
 bif FW Ks st k&&st.L.all (λp=>Nat.beq p.1 k||!v8 k p.2.ids)then(match look st.L k with
  |some (.rig l)=>match reify t l with
   |some (b',x,[])=>bif b'.le b then(match FX k t b x ts st.m with
    |some m'=>some ([],⟨st.rm,m',st.rL,st.L.filter λp=>!Nat.beq p.1 k⟩)
    |none=>none)else none
   |_=>none
  |_=>none)else none
theorem mem_filt{α:Type}{l:List (Nat×α)}{k:Nat}{q:Nat×α}(h:q∈l.filter λp=>!Nat.beq p.1 k):q∈l/\q.1≠k:=by
 obtain⟨a,c⟩:=q5R.1 h;exact⟨a,λe=>by subst e;simp at c⟩
def frzP(k:Nat)(t:Ty)(b:Bd)(ts:List Nat):PExt:=⟨Um k t b ts,by
 intro n Ks st st' vc hk h hvc;unfold Um at h
 cases hc:FW Ks st k&&st.L.all (λp=>Nat.beq p.1 k||!v8 k p.2.ids)with
 |false=>rw[hc]at h;cases h
 |true=>
  rw[hc]at h;simp only[cond_true]at h
  rw[q5m]at hc;obtain⟨hc,hc6⟩:=hc;unfold FW at hc;simp only[q5m,q6N]at hc hc6;obtain⟨⟨⟨⟨⟨c0,c1⟩,c2⟩,c3⟩,c4⟩,c5⟩:=hc;split at h
  .rename_i l hl
   split at h
   .rename_i b' x hr
    cases hb:b'.le b with
    |false=>rw[hb]at h;cases h
    |true=>
     rw[hb]at h;simp only[cond_true]at h
     split at h
     .rename_i m' hm
      simp only[q6E,q6F]at h;obtain⟨rfl,rfl⟩:=h
      have hlk:qm st k=some (.rig l):=by unfold qm;rw[hl]
      have hlok:WAs.ok l:=hk.l k _ hlk;obtain⟨m0,e1,i1,o1⟩:=vv hr;have e1:WAs.exp l=m0:=by rw[e1];simp[WAs.exp]
      subst e1;have hbn:Bnd t b x:=Bnd.mono hb (o1 hlok).1;have hB1:(WB.rig [.dt t b x]).ok:=v9 hbn
      obtain⟨ent1,ok1⟩:=Vu (n:=n) (Ks:=Ks) hk hl (B:= .rig l) (B':= .rig [.dt t b x]) (by
       show BImp k (.rigid (WAs.exp l)) (.rigid (WAs.exp [.dt t b x]))
       rw[zi];exact zM i1) hB1
      have hmok: ∀p∈st.m,p.2.ok:=λp hp=>hk.m p.1 p.2 (by unfold qA;rw[zS c1 hp])
      have sm:=HT hbn hm hmok
      have hM: ∀t' v',qA ⟨st.rm,m',st.rL,st.L.filter λp=>!Nat.beq p.1 k⟩ t'=some v'-> ∃v,qA st t'=some v/\RelV k (cellsC t x) none v.exp v'.exp/\v'.ok:=by
       intro t' v' hv;unfold qA at hv;simp only at hv
       cases hl:look m' t' with
       |some x=>
        rw[hl]at hv;simp at hv;subst hv
        obtain⟨p,hp,e,h1,h2⟩:=sm _ (qR hl);have e':p.1=t':=e;exact⟨p.2,by unfold qA;rw[<-e',zS c1 hp],h1,h2⟩
       |none=>
        rw[hl]at hv;simp only at hv
        have h3:qA st t'=some v':=by unfold qA;rw[hk.dm t' (by rw[hv];simp)];exact hv
        exact⟨v',h3,Gn,hk.m t' v' h3⟩
      have hB: ∀q b',qm ⟨st.rm,m',st.rL,st.L.filter λp=>!Nat.beq p.1 k⟩ q=some b'->q≠k/\qm st q=some b'/\b'.ok:=by
       intro q b' hv;unfold qm at hv;simp only at hv
       cases hl:look (st.L.filter λp=>!Nat.beq p.1 k) q with
       |some y=>
        rw[hl]at hv;simp at hv;subst hv
        have hq:q≠k:=(mem_filt (qR hl)).2;rw[R7 (λe=>hq e.symm)]at hl;have h3:qm st q=some y:=by unfold qm;rw[hl]
        exact⟨hq,h3,hk.l q y h3⟩
       |none=>
        rw[hl]at hv;simp only at hv
        have h3:qm st q=some b':=by unfold qm;rw[hk.dl q (by rw[hv];simp)];exact hv
        have h4:=c5 _ (qR hv);simp only[q5m,q5o]at h4;exact⟨λe=>by subst e;simp at h4,h3,hk.l q b' h3⟩
      have e1L: ∀q,q≠k->qm ⟨st.rm,st.m,st.rL,(k,WB.rig [.dt t b x])::st.L⟩ q=qm st q:=by
       intro q hq;unfold qm;simp only[look,jm (λe=>hq e.symm),cond_false]
      refine⟨Ent.trans ent1 ?_,⟨λt' v' h=>(hM t' v' h).choose_spec.2.2,λq b' h=>(hB q b' h).2.2,?_,?_⟩,rfl,rfl⟩
      .refine LO (k:=k) (cells:=cellsC t x) (g:=none) c0 (λk0 hk0=>?_) (.inl ⟨rfl,?_⟩) ?_ ?_
       .rw[qJ]
        by_cases e:k0=k
        .subst e;unfold qm;simp[look]
        .rw[e1L k0 e]
         obtain⟨x,hx⟩:=Option.isSome_iff_exists.1 (c3 k0 hk0);rw[hx];simp
       .rw[qJ]
        have:qm ⟨st.rm,st.m,st.rL,(k,WB.rig [.dt t b x])::st.L⟩ k=some (.rig [.dt t b x]):=by unfold qm;simp[look]
        rw[this];simp only[q6D,WB.exp,zi];rfl
       .intro t' av' hv
        rw[vd]at hv
        cases hl:qA ⟨st.rm,m',st.rL,st.L.filter λp=>!Nat.beq p.1 k⟩ t' with
        |none=>rw[hl]at hv;cases hv
        |some v'=>
         rw[hl]at hv;simp at hv;subst hv
         obtain⟨v,h1,h2,_⟩:=hM t' v' hl;exact⟨v.exp,by rw[vd];show(qA st t').map _=_;rw[h1];rfl,h2⟩
       .intro q b' hv
        rw[qJ]at hv
        cases hl:qm ⟨st.rm,m',st.rL,st.L.filter λp=>!Nat.beq p.1 k⟩ q with
        |none=>rw[hl]at hv;cases hv
        |some b1=>
         rw[hl]at hv;simp at hv;subst hv
         obtain⟨h0,h1,_⟩:=hB q b1 hl;exact⟨h0,b1.exp,by rw[qJ,e1L q h0,h1];rfl,Jm⟩
      .intro t' ht'
       show look m' t'=none;refine jX.2 λq hq e=>?_
       obtain⟨p,hp,e',_⟩:=sm q hq;exact absurd e (λe=>(jX.1 (hk.dm t' ht')) p hp (e'.trans e))
      .intro q hq
       show look (st.L.filter λp=>!Nat.beq p.1 k) q=none;exact jX.2 λq' hq' e=>(jX.1 (hk.dl q hq)) q' (mem_filt hq').1 e
     .cases h
   .cases h
  .cases h⟩
end
end
section
section
variable {P:Program}
theorem L2: ∀{a b:List Atom}(i:Nat),AImps a b->AImps (a.drop i) (b.drop i)
 |a,b,0,h=>h
 |[],[],_+1,_=>trivial
 |_::_,_::_,i+1,h=>L2 i h.2
 |[],_::_,_+1,h=>h.elim
 |_::_,[],_+1,h=>h.elim
theorem L3: ∀{a b:List Atom}(i:Nat),AImps a b->AImps (a.take i) (b.take i)
 |[],[],0,_=>trivial
 |_::_,_::_,0,_=>trivial
 |[],[],_+1,_=>trivial
 |_::_,_::_,i+1,h=>⟨h.1,L3 i h.2⟩
 |[],_::_,_,h=>h.elim
 |_::_,[],_,h=>h.elim
def gIxA(P:Program):Op->Option Tmp->(Nat->Option WB)->List WV->HR
 | .indexAddr t _ _,_,_,[.c (.one (.loc k off)),.c (.one (.dt (.nat kk) b i))]=>match P.underlying t with
  |some (.array m e)=>match P.info? e with
   |some ie=>bif Nat.beq off 0 then .ok [(show Nat from i)<m] (.c (.one (.el k i 0 ie.size))) [] []else .bad
   |none=> .bad
  |_=> .bad
 |_,_,_,_=> .bad
def q1a:Ext P:=⟨gIxA P,by
 intro op dst ty bl vs hl;unfold gIxA;split
 .rename_i t k off kk b i
  split
  .rename_i m e hu
   split
   .rename_i ie he
    cases h0:Nat.beq off 0 with
    |false=>exact trivial
    |true=>
     have:=q68 h0;subst this
     intro hv _ hvc kin hk _;rw[qn hk];have hlt:(show Nat from i)<m:=hvc _ q5Q;refine⟨?_,⟨trivial,rfl⟩,qx⟩;show OpOk P (.indexAddr _ _ _) ty [(_,.c (.one (.loc k 0))),(_,qo kk (Int.ofNat i))] [] (.c (.one (.loc k (i*ie.size+0)))) [];rw[show(show Nat from i)*ie.size+0=0+(Int.ofNat i).toNat*ie.size by simp];exact AN hu he (q5q _) (Int.ofNat_lt.2 hlt)
   .exact trivial
  .exact trivial
 .exact trivial⟩
theorem Ti{l:List Atom}(h:l.length=1): ∃u,l=[u]:=by
 match l,h with
 |[u],_=>exact⟨u,rfl⟩
end
end
def rwSF(slot:Nat)(t:Ty)(b:Bd)(y:t.den)(st:WSt):Option (List Prop×WSt):=
 match look st.m slot with
 |some (.c (.one (.dt t' b' x)))=>if h:t'.beq t=true then(bif jY st.m then some ([vi h x=y,Bnd t b y],setV st slot (.c (.one (.dt t b y))))else none)else none
 |some (.c (.agg [.dt t' b' x]))=>if h:t'.beq t=true then(bif jY st.m then some ([vi h x=y,Bnd t b y],setV st slot (.c (.agg [.dt t b y])))else none)else none
 |_=>none
def rwS(slot:Nat)(t:Ty)(b:Bd)(y:t.den):PExt:=⟨λ_ st=>rwSF slot t b y st,by
 intro n Ks st st' vc hk h hvc;unfold rwSF at h;split at h
 .rename_i t' b' x hl
  split at h
  .rename_i hb
   have:=Ty.beq_eq hb;subst this
   cases hn:jY st.m with
   |false=>rw[hn]at h;cases h
   |true=>
    rw[hn]at h;simp only[cond_true,q6E,q6F]at h;obtain⟨rfl,rfl⟩:=h
    have e:vi hb x=y:=hvc _ q5Q;have e2:Bnd t' b y:=hvc (Bnd t' b y) (by simp);rw[Dx]at e;subst e
    have h0:(WV.c (.one (.dt t' b' x))).ok:=hk.m slot _ (by unfold qA;rw[hl]);exact Dm hk hn hl rfl ⟨e2,h0.2⟩
  .cases h
 .rename_i t' b' x hl
  split at h
  .rename_i hb
   have:=Ty.beq_eq hb;subst this
   cases hn:jY st.m with
   |false=>rw[hn]at h;cases h
   |true=>
    rw[hn]at h;simp only[cond_true,q6E,q6F]at h;obtain⟨rfl,rfl⟩:=h
    have e:vi hb x=y:=hvc _ q5Q;have e2:Bnd t' b y:=hvc (Bnd t' b y) (by simp);rw[Dx]at e;subst e
    exact Dm hk hn hl rfl (v9 e2)
  .cases h
 .cases h⟩
def wJ(K:Nat)(k:Option Nat)(l:List Nat):Bool:=!v8 K l&&(match k with|some k=>!v8 k l|none=>true)
theorem Am{K:Nat}{k:Option Nat}{l:List Nat}(h:wJ K k l=true):K∉l/\ ∀k0,k=some k0->k0∉l:=by
 unfold wJ at h;simp only[q5m,q5o]at h;refine⟨λhm=>by rw[z9.2 hm]at h;exact absurd h.1 (by simp),λk0 e hm=>?_⟩;subst e;have:=h.2;simp only[q5o]at this;rw[z9.2 hm]at this;cases this
def DY(st:WSt)(kb K:Nat)(k:Option Nat):Bool:=
 Nat.blt K 100000&&jY st.m&&jY st.L&&!Nat.beq kb K&&!(match k with|some k=>Nat.beq kb k|none=>false)&&(look st.rL kb).isNone&&
  st.rm.all (λp=>wJ K k p.2.ids)&&st.rL.all (λp=>renL K k p)
def wi(st:WSt)(kb K:Nat)(k:Option Nat)(cs:List WA)(B:WB):WSt:=
 ⟨st.rm,st.m.filter (λp=>wJ K k p.2.ids),st.rL,(K,B)::(kb,.rig cs)::st.L.filter (λp=>!Nat.beq p.1 kb&&renL K k p)⟩
def renB(kb i K:Nat)(t:Ty)(b:Bd)(st:WSt):Option WSt:=
 match look st.L kb with
 |some (.rig l)=>match l.drop i with
  | .gs k n w nb::post=>bif Nat.beq k K then some st else(match look st.L k with
   |some (.gro t' b' xs)=>bif DY st kb K (some k)&&(wJ K (some k) (WAs.ids (l.take i))&&wJ K (some k) (WAs.ids post))then some (wi st kb K (some k) (l.take i++ .gs K n w nb::post) (.gro t' b' xs))else none
   |_=>none)
  |a::post=>bif zm a&&(DY st kb K none&&(wJ K none (WAs.ids (l.take i))&&wJ K none (WAs.ids post)))then some (wi st kb K none (l.take i++ .gs K 0 t.w 0::post) (.gro t b []))else none
  |[]=>none
 |_=>none
theorem Hf{β β':Bm}{H:Heap}{x x':Atom}{b:List Atom}(hb: ∀q,jA q b=true->β' q=β q)(hx: ∀u,x.sat β H u->x'.sat β' H u):
  ∀{a:List Atom},(∀q,jA q a=true->β' q=β q)-> ∀{vs:List Value},Sats β H (a++x::b) vs->Sats β' H (a++x'::b) vs
 |[],_,_::_,h=>⟨hx _ h.1,Sats.congr (Heap.Le.refl _) hb h.2⟩
 |[],_,[],h=>h.elim
 |y::a,ha,v::vs,h=>⟨Atom.sat_congr (Heap.Le.refl _) (λk hk=>ha k (by simp[jA,hk])) h.1,Hf hb hx (λk hk=>ha k (by simp[jA,hk])) h.2⟩
 |_::_,_,[],h=>h.elim
theorem Cg(pre post:List WA)(a:WA)(x:Atom)(h:a.exp=[x]):WAs.exp (pre++a::post)=WAs.exp pre++x::WAs.exp post:=by
 rw[WAs.exp_app];congr 1
 show a.exp++_=_;rw[h];rfl
theorem JU{n:Nat}{Ks:List Nat}{st:WSt}(hk:st.Ok){kb K:Nat}{k:Option Nat}{pre post:List WA}{a0:WA}{t:Ty}{b0:Bd}{l:List t.den}(hr:DY st kb K k=true){m w nb:Nat}(hm:m<=nb)(hB:(WB.gro t b0 l).ok)
  (hbox:look st.L kb=some (.rig (pre++a0::post)))(f1:wJ K k (WAs.ids pre)=true)(f2:wJ K k (WAs.ids post)=true)
  (hold:(∃k0,k=some k0/\k0≠K/\a0= .gs k0 m w nb/\look st.L k0=some (.gro t b0 l))\/(k=none/\m=0/\l=[]/\a0= .vl (.slice none 0 0))):
  EntW n Ks st (wi st kb K k (pre++ .gs K m w nb::post) (.gro t b0 l))/\(wi st kb K k (pre++ .gs K m w nb::post) (.gro t b0 l)).Ok:=by
 unfold DY at hr;simp only[q5m,q6N]at hr;obtain⟨⟨⟨⟨⟨⟨⟨r0,r1⟩,r2⟩,r6⟩,r7⟩,r3⟩,r4⟩,r5⟩:=hr;have r0:K<100000:=by simpa using r0
 have r6:kb≠K:=λe=>by subst e;simp at r6
 have r7: ∀k0,k=some k0->kb≠k0:=λk0 h e=>by subst h e;simp at r7
 have r3:look st.rL kb=none:=Option.isNone_iff_eq_none.1 r3;generalize hcs:pre++WA.gs K m w nb::post=cs;have hboxL:qm st kb=some (.rig (pre++a0::post)):=by unfold qm;rw[hbox]
 have hslot: ∀t v',qA (wi st kb K k cs (.gro _ b0 l)) t=some v'->qA st t=some v'/\K∉v'.ids:=by
  intro t v' h;unfold qA wi at h;simp only at h
  cases hf:look (st.m.filter (λp=>wJ K k p.2.ids)) t with
  |some x=>
   rw[hf]at h;simp at h;subst h
   obtain⟨h1,h2⟩:=zr r1 hf;exact⟨by unfold qA;rw[h1],(Am h2).1⟩
  |none=>
   rw[hf]at h;simp only at h
   refine⟨?_,(Am (r4 _ (qR h))).1⟩;unfold qA;rw[hk.dm t (by rw[h];simp)];exact h
 have hblk: ∀q b',qm (wi st kb K k cs (.gro _ b0 l)) q=some b'->(q=K/\b'= .gro _ b0 l)\/(q=kb/\b'= .rig cs)\/(q≠K/\q≠kb/\qm st q=some b'/\K∉b'.ids/\ ∀k0,k=some k0->q≠k0):=by
  intro q b' h;unfold qm wi at h;simp only[look]at h;by_cases e:K=q
  .subst e;simp at h;exact .inl ⟨rfl,h.symm⟩
  .rw[jm e]at h;simp only[cond_false]at h
   by_cases e2:kb=q
   .subst e2;simp at h;exact .inr (.inl ⟨rfl,h.symm⟩)
   .rw[jm e2]at h;simp only[cond_false]at h
    refine .inr (.inr ⟨λe'=>e e'.symm,λe'=>e2 e'.symm,?_⟩)
    cases hf:look (st.L.filter (λp=>!Nat.beq p.1 kb&&renL K k p)) q with
    |some x=>
     rw[hf]at h;simp at h;subst h
     obtain⟨h1,h2⟩:=zr r2 hf;simp only[renL,q5m,q5o]at h2;refine⟨by unfold qm;rw[h1],λhm=>by rw[z9.2 hm]at h2;exact absurd h2.2.1.2 (by simp),λk0 hk0 e=>?_⟩;subst hk0 e;simp at h2
    |none=>
     rw[hf]at h;simp only at h
     have h4:=(r5 _ (qR h));simp only[renL,q5m,q5o]at h4;refine⟨?_,λhm=>by rw[z9.2 hm]at h4;exact absurd h4.1.2 (by simp),λk0 hk0 e=>?_⟩
     .unfold qm;rw[hk.dl q (by rw[h];simp)];exact h
     .subst hk0 e;simp at h4
 refine⟨?_,⟨λt v' h=>?_,λq b' h=>?_,λt ht=>?_,λq hq=>?_⟩⟩
 .intro E hn hK a w' H β hrep
  let β':Bm:=λq=>if q=K then(match k with|some k0=>β k0|none=>none)else β q
  have hβ: ∀q,q≠K->β' q=β q:=λq h=>if_neg h
  have hβK:β' K=(match k with|some k0=>β k0|none=>none):=if_pos rfl
  have holdL: ∀k0,k=some k0->look st.L k0=some (.gro _ b0 l)/\qm st k0=some (.gro _ b0 l):=by
   intro k0 h0;rcases hold with⟨k1,h1,_,_,h2⟩|⟨h1,_⟩
   .rw[h0]at h1;cases h1
    exact⟨h2,by unfold qm;rw[h2]⟩
   .rw[h0]at h1;cases h1
  have hcA: ∀(v':WV),K∉v'.ids-> ∀q,v'.exp.men q=true->β' q=β q:=λv' h q hq=>hβ q λe=>h (e▸WV.men_ids hq)
  have hcB: ∀(b':WB),K∉b'.ids-> ∀q,b'.exp.men q=true->β' q=β q:=λb' h q hq=>hβ q λe=>h (e▸WB.men_ids hq)
  have hcL: ∀(c:List WA),K∉WAs.ids c-> ∀q,jA q (WAs.exp c)=true->β' q=β q:=λc h q hq=>hβ q λe=>h (e▸WAs.men_ids hq)
  have hrepL: ∀k0,k=some k0->(WB.gro _ b0 l).exp.rep β w' H k0:=λk0 h0=>hrep.blk k0 _ (by rw[qz,qJ,(holdL k0 h0).2];rfl)
  have hin: ∀q b',qm (wi st kb K k cs (.gro _ b0 l)) q=some b'-> ∀b c,β' q=some (b,c)-> ∃q0 x,j9 st.toA (2*q0+1)=some (.bl x)/\β q0=some (b,c)/\(q=K->k=some q0)/\(q≠K->q0=q):=by
   intro q b' h b c hb;rcases hblk q b' h with⟨rfl,rfl⟩|⟨rfl,rfl⟩|⟨h1,_,h2,h3,h4⟩
   .rw[hβK]at hb
    cases k with
    |none=>cases hb
    |some k0=>exact⟨k0,_,by rw[qz,qJ,(holdL k0 rfl).2];rfl,hb,λ_=>rfl,λh=>absurd rfl h⟩
   .rw[hβ q r6]at hb
    exact⟨q,_,by rw[qz,qJ,hboxL];rfl,hb,λh=>absurd h r6,λ_=>rfl⟩
   .rw[hβ q h1]at hb
    exact⟨q,_,by rw[qz,qJ,h2];rfl,hb,λh=>absurd h h1,λ_=>rfl⟩
  refine⟨H,β',⟨hrep.defers,hrep.size,?_,?_,?_,?_,λq hq=>?_,hrep.os,hrep.tape,hrep.output,hrep.wsize,hrep.frame,hrep.hle,hrep.hnew,hrep.hon⟩⟩
  .intro t av ht
   rw[jy,vd]at ht
   cases hv:qA (wi st kb K k cs (.gro _ b0 l)) t with
   |none=>rw[hv]at ht;cases ht
   |some v'=>
    rw[hv]at ht;simp at ht;subst ht
    obtain⟨h2,h3⟩:=hslot t v' hv;obtain⟨u,hu,hsat⟩:=hrep.slot t _ (by rw[jy,vd,h2];rfl);exact⟨u,hu,AV.sat_congr (Heap.Le.refl _) (hcA v' h3) hsat⟩
  .intro q x hx
   rw[qz,qJ]at hx
   cases hv:qm (wi st kb K k cs (.gro _ b0 l)) q with
   |none=>rw[hv]at hx;cases hx
   |some b'=>
    rw[hv]at hx;simp at hx;subst hx
    rcases hblk q b' hv with⟨rfl,rfl⟩|⟨rfl,rfl⟩|⟨h1,_,h2,h3,h4⟩
    .rcases hold with⟨k0,rfl,hne,hs,hl⟩|⟨rfl,rfl,rfl,hs⟩
     .have h9:=hrepL k0 rfl
      rcases h9 with⟨h5,h6⟩|⟨b,c,arr,T,h5,h6,h7,h8,h9⟩
      .exact .inl ⟨by rw[hβK];exact h5,h6⟩
      .refine .inr ⟨b,c,arr,T,by rw[hβK];exact h5,h6,h7,h8,?_⟩
       exact Sats.congr (Heap.Le.refl _) (λq hq=>by rw[zI]at hq;cases hq) h9
     .exact .inl ⟨hβK,rfl⟩
    .obtain⟨b,c,arr,T,h5,h6,h7⟩:=hrep.blk q _ (by rw[qz,qJ,hboxL];rfl)
     refine⟨b,c,arr,T,by rw[hβ q r6];exact h5,h6,?_⟩;subst hcs;rw[Cg _ _ _ (.gs K m) rfl];rcases hold with⟨k0,rfl,hne,rfl,hl⟩|⟨rfl,rfl,rfl,rfl⟩
     .rw[Cg _ _ _ (.gs k0 m) rfl]at h7
      refine Hf (hcL post (Am f2).1) (λu hu=>?_) (hcL pre (Am f1).1) h7;rcases hu with⟨h5,h6,h7⟩|⟨b,c,h5,h6⟩
      .exact .inl ⟨by rw[hβK];exact h5,h6,h7⟩
      .exact .inr ⟨b,c,by rw[hβK];exact h5,h6⟩
     .rw[Cg _ _ _ (.val (.slice none 0 0)) rfl]at h7
      refine Hf (hcL post (Am f2).1) (λu hu=>?_) (hcL pre (Am f1).1) h7;exact .inl ⟨hβK,rfl,hu.1⟩
    .refine Blk.rep_congr (hrep.blk q b'.exp (by rw[qz,qJ,h2];rfl)) (Heap.Le.refl _) ?_ (λ_ _ _=>rfl)
     rintro q' (rfl|hq')
     .exact hβ _ h1
     .exact hcB b' h3 q' hq'
  .intro q x b c hx hb
   rw[qz,qJ]at hx
   cases hv:qm (wi st kb K k cs (.gro _ b0 l)) q with
   |none=>rw[hv]at hx;cases hx
   |some b'=>
    obtain⟨q0,y,h1,h2,_,_⟩:=hin q b' hv b c hb;exact hrep.own q0 y b c h1 h2
  .intro q q' x x' b c c' hx hx' hne hb hb'
   rw[qz,qJ]at hx hx'
   cases hv:qm (wi st kb K k cs (.gro _ b0 l)) q with
   |none=>rw[hv]at hx;cases hx
   |some b1=>
    cases hv':qm (wi st kb K k cs (.gro _ b0 l)) q' with
    |none=>rw[hv']at hx';cases hx'
    |some b2=>
     obtain⟨q0,y,h1,h2,h3,h4⟩:=hin q b1 hv b c hb;obtain⟨q0',y',h1',h2',h3',h4'⟩:=hin q' b2 hv' b c' hb';refine hrep.inj q0 q0' y y' b c c' h1 h1' ?_ h2 h2';intro e;by_cases eq:q=K
     .have k1:=h3 eq
      have hq':q'≠K:=λe'=>hne (eq.trans e'.symm)
      have:=h4' hq';rcases hblk q' b2 hv' with⟨e',_⟩|⟨e',_⟩|⟨_,_,_,_,h9⟩
      .exact hq' e'
      .exact r7 q0 k1 (by rw[e,this,e'])
      .exact h9 q0 k1 (by rw[<-this,e])
     .have:=h4 eq
      by_cases eq':q'=K
      .have k1:=h3' eq'
       rcases hblk q b1 hv with⟨e',_⟩|⟨e',_⟩|⟨_,_,_,_,h9⟩
       .exact eq e'
       .exact r7 q0' k1 (by rw[<-e,this,e'])
       .exact h9 q0' k1 (by rw[<-this,e])
      .exact hne (by rw[<-h4 eq,<-h4' eq',e])
  .rw[hβ q (λe=>by have:=E.hKs q hq;omega)];exact hrep.bor q hq
 .exact hk.m t v' (hslot t v' h).1
 .rcases hblk q b' h with⟨_,rfl⟩|⟨_,rfl⟩|⟨_,_,h2,_⟩
  .exact hB
  .have h0:WAs.ok (pre++a0::post):=hk.l kb (.rig (pre++a0::post)) hboxL
   obtain⟨h1,h2⟩:=WAs.ok_app.1 h0;subst hcs;exact WAs.ok_app.2 ⟨h1,WAs.ok_cons.2 ⟨hm,(WAs.ok_cons.1 h2).2⟩⟩
  .exact hk.l q b' h2
 .exact Ac (hk.dm t ht)
 .show look ((K,WB.gro t b0 l)::(kb,.rig cs)::st.L.filter (λp=>!Nat.beq p.1 kb&&renL K k p)) q=none
  have hq':look st.rL q≠none:=hq;obtain⟨x,hx⟩:=Option.ne_none_iff_exists'.1 hq';have h4:=(r5 _ (qR hx));simp only[renL,q5m,q5o]at h4;have hne:K≠q:=λe=>by subst e;simp at h4
  have hne2:kb≠q:=λe=>by subst e;exact hq' r3
  simp only[look,jm hne,jm hne2,cond_false];exact Ac (hk.dl q hq')
theorem RO{n:Nat}{Ks:List Nat}{st st':WSt}(hk:st.Ok){kb i K:Nat}{t:Ty}{b:Bd}(h:renB kb i K t b st=some st'):EntW n Ks st st'/\st'.Ok/\st'.rm=st.rm/\st'.rL=st.rL:=by
 unfold renB at h;split at h
 .rename_i l hbox
  have hl: ∀{a:WA}{post:List WA},l.drop i=a::post->look st.L kb=some (.rig (l.take i++a::post)):=λe=>by rw[<-e,List.take_append_drop];exact hbox
  split at h
  .rename_i k m w nb post hd
   cases hb:Nat.beq k K with
   |true=>rw[hb]at h;simp at h;subst h;exact⟨Ent.refl,hk,rfl,rfl⟩
   |false=>
    rw[hb]at h;simp only[cond_false]at h
    split at h
    .rename_i t' b' xs hL
     cases hr:DY st kb K (some k)&&(wJ K (some k) (WAs.ids (l.take i))&&wJ K (some k) (WAs.ids post))with
     |false=>rw[hr]at h;cases h
     |true=>
      rw[hr]at h;simp at h;subst h
      simp only[q5m]at hr;have hB:(WB.gro t' b' xs).ok:=hk.l k _ (by unfold qm;rw[hL]);have hok:WAs.ok (l.take i++ .gs k m w nb::post):=hk.l kb (.rig (l.take i++ .gs k m w nb::post)) (by unfold qm;rw[hl hd]);have hmn:m<=nb:=(WAs.ok_cons.1 (WAs.ok_app.1 hok).2).1;obtain⟨h1,h2⟩:=JU (n:=n) (Ks:=Ks) hk hr.1 hmn hB (hl hd) hr.2.1 hr.2.2 (.inl ⟨k,rfl,(λe=>by subst e;simp at hb),rfl,hL⟩);exact⟨h1,h2,rfl,rfl⟩
    .cases h
  .rename_i a post hne hd
   cases hc:zm a&&(DY st kb K none&&(wJ K none (WAs.ids (l.take i))&&wJ K none (WAs.ids post)))with
   |false=>rw[hc]at h;cases h
   |true=>
    rw[hc]at h;simp at h;subst h
    simp only[q5m]at hc;have:=wt hc.1;subst this
    obtain⟨h1,h2⟩:=JU (n:=n) (Ks:=Ks) (t:=t) (b0:=b) (l:=[]) (w:=t.w) hk hc.2.1 (q6d 0) (λx hx=>by simp at hx) (hl hd) hc.2.2.1 hc.2.2.2 (.inr ⟨rfl,rfl,rfl,rfl⟩);exact⟨h1,h2,rfl,rfl⟩
  .cases h
 .cases h
def QH(kb K:Nat)(pre post:List WA)(t:Ty)(b:Bd)(nb:Nat)(st:WSt):Option (List Prop×List t.den):=
 match look st.rL kb,look st.rL K with
 |none,none=>match look st.L kb,look st.L K with
  |some (.rig c),some (.gro t' b' l)=>match c.drop pre.length with
   | .gs k n w nb'::post'=>if h:(Ty.sl t').beq (.sl t)=true then
     (bif Nat.beq k K&&Nat.beq w t.w then some ((c.take pre.length=pre)::(post'=post)::(n=l.length)::((bif Nat.ble nb' nb then[]else[n<=nb])++(bif b'.le b then[]else[∀x∈vi (t:= .sl t') (t':= .sl t) h l,Bnd t b x])),vi (t:= .sl t') (t':= .sl t) h l)else none)else none
   |_=>none
  |_,_=>none
 |_,_=>none
def gboX(kb K:Nat)(pre post:List WA)(t:Ty)(b:Bd)(nb:Nat):HavX where
 t:= .sl t
 bnd l:=(List.length (show List t.den from l)<=nb/\ ∀x∈(show List t.den from l),Bnd t b x)/\WAs.ok pre/\WAs.ok post
 ss:=[]
 bs:=[kb,K]
 gb:=[K]
 m _:=[]
 L l:=[(kb,.rig (pre++ .gs K (List.length (show List t.den from l)) t.w nb::post)),(K,.gro t b l)]
 val st:=QH kb K pre post t b nb st
 ren st:=renB kb pre.length K t b st
 hm:=λ_ p hp=>by simp at hp
 hL:=by
  intro x hx p hp;simp only[q5O,q5W,or_false]at hp;rcases hp with rfl|rfl
  .exact⟨by simp,WAs.ok_app.2 ⟨hx.2.1,WAs.ok_cons.2 ⟨hx.1.1,hx.2.2⟩⟩⟩
  .exact⟨by simp,hx.1.2⟩
 hval:=by
  intro st vc x hk e hvc;unfold QH at e;split at e
  .rename_i hr1 hr2
   split at e
   .rename_i c t' b' l h1 h2
    split at e
    .rename_i k n w nb' post' hd
     split at e
     .rename_i hb
      have:=Ty.beq_eq hb;cases this
      cases hc:Nat.beq k K&&Nat.beq w t.w with
      |false=>rw[hc]at e;cases e
      |true=>
       rw[hc]at e;simp only[cond_true,q6E,q6F]at e;obtain⟨rfl,rfl⟩:=e
       simp only[q5m]at hc;have q1:=q68 hc.1;have q2:=q68 hc.2;subst q1 q2;have e1:c.take pre.length=pre:=hvc _ q5Q;have e2:post'=post:=hvc _ (by simp);have e3:n=l.length:=hvc _ (by simp);obtain⟨p1,p2⟩:=AllP.app (λp hp=>hvc p (q5P _ (q5P _ (q5P _ hp))));subst e2
       have hcc:c=pre++ .gs k n t.w nb'::post':=by
        have h9:=List.take_append_drop pre.length c;rw[e1,hd]at h9;exact h9.symm
       have hL1:qm st kb=some (.rig c):=by unfold qm;rw[h1]
       have hL2:qm st k=some (.gro t b' l):=by unfold qm;rw[h2]
       have e5: ∀x∈l,Bnd t b x:=by
        cases hle:b'.le b with
        |true=>exact λx hx=>Bnd.mono hle ((hk.l k _ hL2) x hx)
        |false=>rw[hle]at p2;exact p2 (∀x∈l,Bnd t b x) q5Q
       have hok:WAs.ok c:=hk.l kb (.rig c) hL1;rw[hcc]at hok;obtain⟨o1,o2⟩:=WAs.ok_app.1 hok;have hnn:n<=nb':=(WAs.ok_cons.1 o2).1
       have e4:n<=nb:=by
        cases hle:Nat.ble nb' nb with
        |true=>have:=q6a hle;omega
        |false=>rw[hle]at p1;exact p1 (n<=nb) q5Q
       refine⟨⟨⟨by show l.length<=nb;omega,e5⟩,o1,(WAs.ok_cons.1 o2).2⟩,λp hp=>by simp at hp,λp hp=>?_⟩;simp only[q5O,q5W,or_false]at hp;rcases hp with rfl|rfl
       .refine⟨hr1,_,hL1,?_⟩
        show BImp kb (.rigid (WAs.exp c)) (.rigid (WAs.exp (pre++ .gs k l.length t.w nb::post')));rw[hcc,Cg _ _ _ (.gs k n) rfl,Cg _ _ _ (.gs k l.length) rfl,e3];exact λ_ _ _ h=>h
       .exact⟨hr2,_,hL2,λ_ _ _ h=>h⟩
     .cases e
    .cases e
   .cases e
  .cases e
 hren:=λhk h=>RO hk h
section
section
variable {P:Program}
theorem Pj {op : Op} {ty : TypeId} {ins : List (Operand × AV)} {k : Nat} {b b' : Blk} {R : AV} (hi : BImp k b b')
  (h : ∀ (a : Act) (w : World) (H : Heap) (β : Bm), (∀ p ∈ ins, p.2.sat β H (a.eval p.1)) -> b.rep β w H k -> Heap.On H w ->
   ∃ v, R.sat β H v /\ ∀ dst pos after guard, (execOp a.eval ⟨dst, op, ty, pos, after, guard⟩).run P w = .ok (.value v) w) : OpOk P op ty ins [(k, b)] R [(k, some b')] := by
 intro dst pos after guard a w H β K Q hins hkin _ hon hK;have hr := (hkin (k, b) q5Q).1;obtain ⟨v, hv, hrun⟩ := h a w H β hins hr hon;unfold Oper.wp;rw [hrun];refine hK v w H β (by simpa [kwOf, qX, vg, look] using Step.same k hon) hv λk' b1 hb1 => ?_
 simp only [q5U, q6F, q6E] at hb1;obtain ⟨rfl, rfl⟩ := hb1;exact hi _ _ _ hr
theorem Rr{t ty:TypeId}{x:Operand}{k off s:Nat}{cs cs':List Atom}{u:Atom}(hs:jl P t=some (false,s))(hl:cs[off]?=some u)(hc:AImps cs cs'):
  OpOk P (.load t x) ty [(x,.c (.one (.loc k off)))] [(k,.rigid cs)] (.c (.one u)) [(k,some (.rigid cs'))]:=
 Pj (zM hc) λa w H β hins hk _=>by
  obtain⟨b,c,hβ,hx⟩:=hins _ q5Q;obtain⟨b',c',arr,T,hβ',hb,hsat⟩:=hk;simp only at hβ hx;rw[hβ]at hβ';cases hβ'
  obtain⟨v,hv,hu⟩:=Sats.get off hsat hl;refine⟨v,hu,λ_ _ _ _=>?_⟩
  simp only[execOp,Instr.loadAt,hx,Instr.sureAddr,q6H,q6I,q6G,
   zG hs hb (off:=off) (by simpa using hv)]
def gLF(P:Program):Op->Option Tmp->(Nat->Option WB)->List WV->HR
 | .load ty _,_,bl,[.c (.one (.loc k off))]=>match bl k,jl P ty with
  |some (.rig l),some (false,s)=>match carve l off 1 with
   |some (a,[m],p)=> .ok [] (.c (.one m)) [k] [(k,some (.rig (a++ .un::p)))]
   |_=> .bad
  |_,_=> .bad
 |_,_,_,_=> .bad
def wu:Ext P:=⟨gLF P,by
 intro op dst ty bl vs hl;unfold gLF;split
 .rename_i ty' x k off
  split
  .rename_i l s hbl hs
   split
   .rename_i a m p hc
    intro hv hbo _ kin hk hkb;rw[zD hk hkb hbl];obtain⟨e,l1,l2,o⟩:=vr hc;obtain⟨oa,om,op⟩:=o (hbo k _ hbl);have hm1:(WAs.exp [m]).length=1:=l2;have hme:WAs.exp [m]=m.exp:=by simp[WAs.exp]
    rw[hme]at hm1;have hwd:m.wd=1:=by rw[<-m.exp_len];exact hm1
    obtain⟨u,hu⟩:=Ti hm1
    have hat:(WAs.exp l)[off]?=some u:=by
     rw[e,List.getElem?_append_right (by omega),l1,Nat.sub_self,hme,hu];rfl
    have himp:AImps (WAs.exp l) (WAs.exp (a++ .un::p)):=by
     rw[e,Cg _ _ _ (.abs unP) rfl,hme,hu];exact zX vm ⟨λ_ _ _ h=>Atom.sat_one h,vm⟩
    have hmok:m.ok:=om m q5Q;refine⟨?_,⟨hmok,hwd⟩,vV (WAs.ok_app.2 ⟨oa,WAs.ok_cons.2 ⟨trivial,op⟩⟩)⟩;have:=Rr (P:=P) (t:=ty') (ty:=ty) (x:=x) (k:=k) (off:=off) (s:=s) hs hat himp;refine this.weak (λβ H v h=>?_) (DF λ_ _ _ h=>h);show(AV.c (.one (m.exp.headD (.val (.bool false))))).sat β H v;rw[hu];exact h
   .exact trivial
  .exact trivial
 .exact trivial⟩
end
end
section
section
variable {P:Program}
end
end
section
section
variable {P:Program}
theorem Tg{fx:Operand}{f:FuncId}{cells:List CAtom}{xs:Array Operand}{ts:Array TypeId}{ty:TypeId}{us:List AV}{R:AV}
  (hl:xs.size=us.length)(h:vQ P f (us++[.c (.one (.abs (ptP cells)))]) [] R []):
  OpOk P (.call {callee:= .value fx,args:=xs,argTypes:=ts}) ty ((fx,.c (.one (.abs (clP f cells))))::List.zip xs.toList us) [] R []:=by
 intro dst pos after guard a w H β K Q hins hkin hdis hon hK;obtain⟨q,hf,hq⟩:=hins _ q5Q;simp only at hf;have hargs:AVs β H us (xs.toList.map a.eval):=AVs.of_ins (by simpa using hl) λp hp=>hins p (q5P _ hp)
 have hap: ∀{l:List AV}{vs:List Value},AVs β H l vs->AVs β H (l++[.c (.one (.abs (ptP cells)))]) (vs++[q]):=by
  intro l
  induction l with
  |nil=>intro vs hv;cases vs with
   |nil=>exact⟨hq,trivial⟩
   |cons _ _=>exact hv.elim
  |cons x l ih=>intro vs hv;cases vs with
   |nil=>exact hv.elim
   |cons _ _=>exact⟨hv.1,ih hv.2⟩
 have hc:=h.2 _ w H β (hap hargs) hkin hdis hon;unfold Oper.wp
 have hrun:(execOp a.eval ⟨dst,.call {callee:= .value fx,args:=xs,argTypes:=ts},ty,pos,after,guard⟩).run P w= .ok (.enter f (xs.map a.eval++ #[q])) w:=by
  simp only[execOp,resolve,hf,Deferred.ofValue,q6H,q6I,q6G,invoke];rw[show(#[]++Array.map a.eval xs++ #[q]:Array Value)=Array.map a.eval xs++ #[q] by simp];exact CP h.1 _ w
 rw[hrun];show Calls P f (xs.map a.eval++ #[q]) w _;have e:(xs.toList.map a.eval++[q]).toArray=xs.map a.eval++ #[q]:=Array.ext' (by simp);rw[<-e];refine hc.mono λe' w'⟨v,H',β',he,hs,hR,hL⟩=>?_
 subst he;exact hK v w' H' β' hs hR hL
def gMkF:Op->Option Tmp->(Nat->Option WB)->List WV->HR
 | .makeFunc (.func f) a b,_,_,[.c (.one (.ip t bd x 0))]=>bif Nat.beq a.size 0&&Nat.beq b.size 1 then .ok [] (.c (.one (.dt (.cl f t) bd x))) [] []else .bad
 |_,_,_,_=> .bad
def zy:Ext P:=⟨gMkF,by
 intro op dst ty bl vs hl;unfold gMkF;split
 .rename_i f a b t bd x
  cases hc:Nat.beq a.size 0&&Nat.beq b.size 1 with
  |false=>exact trivial
  |true=>
   simp only[q5m]at hc;have ha:a= #[]:=q5l (q68 hc.1)
   obtain⟨o,hb⟩: ∃o,b= #[o]:=by
    have h1:=q68 hc.2;exact⟨b[0]'(by omega),Array.ext (by simp[h1]) λi h1 h2=>by simp at h2;subst h2;rfl⟩
   subst ha hb;intro hv _ hvc kin hk _;rw[qn hk];refine⟨?_,⟨hv _ q5Q|>.1,rfl⟩,qx⟩;show OpOk P _ ty [(o,.c (.one (.ptr (cellsC t x))))] [] (.c (.one (.abs (clP f (cellsC t x))))) [];refine qP λa w H β hins _ _=>?_
   have h0:=hins _ q5Q;refine⟨.func (.func f) #[] #[a.eval o],⟨a.eval o,rfl,h0⟩,λ_ _ _ _=>?_⟩;simp[execOp,Instr.makeFunc]
 .exact trivial⟩
def Sg(C:Ctr P)(vs:List WV):HR:=
 match vs with
 | .c (.one (.dt (.cl f t) b x))::vs=>bif Nat.beq f C.f then(match zJ C.ts (vs++[.c (.one (.dt (.pt t) b x))])with
  |some (bs,x)=>bif Bds.le bs C.bs then .ok (C.pre x) (C.res bs x) [] []else .bad
  |none=> .bad)else .bad
 |_=> .bad
def gClC(C:Ctr P)(op:Op)(dst:Option Tmp)(bl:Nat->Option WB)(vs:List WV):HR:=
 match op with
 | .call {callee:= .value _,args:=aas,argTypes:=_}=>bif Nat.beq vs.length (aas.size+1)then Sg C vs else .bad
 |_=> .bad
def qY(C:Ctr P):Ext P:=⟨gClC C,by
 intro op dst ty bl vs hl;unfold gClC;split
 .rename_i fx aas ts
  cases hn:Nat.beq vs.length (aas.size+1)with
  |false=>exact trivial
  |true=>
   simp only[cond_true];have hn:=q68 hn;unfold Sg;split
   .rename_i f t b x vs _
    cases hf:Nat.beq f C.f with
    |false=>exact trivial
    |true=>
     simp only[cond_true];have hf:=q68 hf;split
     .rename_i bs y hx
      cases hb:Bds.le bs C.bs with
      |false=>exact trivial
      |true=>
       intro hv _ hvc kin hk _;rw[qn hk]
       obtain⟨h1,h2,h3⟩:=wq hx (λw hw=>by
        rcases q5N.1 hw with hw|hw
        .exact hv w (q5P _ hw)
        .rw[q5U.1 hw];exact⟨(hv _ q5Q).1,rfl⟩)
       refine⟨?_,C.okr bs y h2 hvc,qx⟩;have hs:=Bs h1 (C.sig y (Bnds.mono hb h2) hvc);rw[C.hexp bs y];rw[List.map_append]at hs;rw[show Op.operands (.call {callee:= .value fx,args:=aas,argTypes:=ts})= #[fx]++aas from rfl];have e:(#[fx]++aas:Array Operand).toList=fx::aas.toList:=by simp
       rw[e];subst hf;exact Tg (by simp at hn;simp[hn]) hs
     .exact trivial
   .exact trivial
 .exact trivial⟩
end
end
end Go.Proofs.YtajflbhmdcgkmaaGreat.Sx
