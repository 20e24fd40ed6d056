/-
Own laws, part 4. No condition.
-/
import Derived.Test.YteeamcbonfkjcaaGreatG3
namespace Go.Proofs.YteeamcbonfkjcaaGreat.Sx
open Go Go.Proofs
set_option linter.unusedVariables false
set_option linter.unusedSimpArgs false
set_option maxRecDepth 20000
set_option maxHeartbeats 4000000
theorem AddI.fin'{x y i c:Nat}{out:List Nat}(h:AddI x y i c out)(hi:i=(limbs x).length)(hyx:(limbs y).length<=(limbs x).length):
  qe (out.set (limbs x).length c)=x+y/\(∀u∈out.set (limbs x).length c,u<4294967296):=by
 subst hi;have e:c%4294967296=c:=q7p (by have:=h.hc;omega);have:=h.fin hyx
 rwa [e]at this
theorem E7(x:Nat):argsE [.mag] x=argsE [.sl (.nat .u32)] (limbs x):=by
 show[argC .mag x]=[argC (.sl (.nat .u32)) (limbs x)];unfold argC;rw[Bp];rfl
theorem qS{l:List Nat}{i:Nat}(h: ¬i<l.length):l.getD i 0=0:=by
 rw[q6E,q6J (by omega)];rfl
theorem GJ{l:List Nat}{n i x:Nat}(h:n=l.length):n=(l.set i x).length:=by rw[List.length_set];exact h
theorem MulJ.fin'{x y i j c:Nat}{o0 out:List Nat}(hI:MulI x y i o0)(hi:i<(limbs x).length)(h:MulJ x y i ((limbs x).getD i 0) j c o0 out)(hj:j=(limbs y).length):
  MulI x y (i+1) (out.set (i+(limbs y).length) c):=by
 subst hj;have:=MulJ.fin hI hi h
 rwa [q7p h.hc]at this
theorem MulI.fin'{x y i:Nat}{out:List Nat}(h:MulI x y i out)(hi:i=(limbs x).length):qe out=x*y/\ ∀u∈out,u<4294967296:=by subst hi;exact⟨h.fin,h.hu⟩
theorem SubI.fin'{x y i c:Nat}{out:List Nat}(h:SubI x y i c out)(hi:i=(limbs x).length)(hxy:y<=x):qe out=x-y/\(∀u∈out,u<4294967296):=by subst hi;exact h.fin hxy
theorem zN{a s:Nat}(ha:a<18446744073709551616)(hs:s<=18446744073709551616):qK .sub .u64 (a:Int) (s:Int) ((dif a s:Nat):Int):=UM ha hs
theorem zz(a s:Nat):dif a s<=18446744073709551615:=q7i w5
theorem Cm{a b:Nat}(x s:Nat)(hab:a=x*2^s)(hb:b<2^s)(h:a+b<18446744073709551616):qK .or .u64 (a:Int) (b:Int) ((a+b:Nat):Int):=Mb x s hab hb h
theorem Gq{a b:Nat}(x s:Nat)(hab:a=x*2^s)(hb:b<2^s)(h:b+a<18446744073709551616):qK .or .u64 (b:Int) (a:Int) ((b+a:Nat):Int):=RF x s hab hb h
theorem TS{a b:Nat}(x s:Nat)(hab:a=x*2^s)(hb:b<2^s)(h:b+a<4294967296):qK .or .u32 (b:Int) (a:Int) ((b+a:Nat):Int):=Wf x s hab hb h
theorem JJ{a:Nat}(h:a<18446744073709551616):qK .and .u64 (a:Int) 4294967295 ((a%4294967296:Nat):Int):=Qp h
theorem JK{k:IntKind}(x s:Nat)(h:s<=k.bits):qK .shr k (x:Int) (s:Int) ((x/2^s:Nat):Int):=⟨q6w _,shrN x s h⟩
theorem Gr(x s:Nat)(h:s<=64)(hx:x*2^s<18446744073709551616):qK .shl .u64 (x:Int) (s:Int) ((x*2^s:Nat):Int):=⟨q6w _,Sc x s h hx⟩
theorem TU(x s:Nat)(h:s<=32):qK .shl .u32 (x:Int) (s:Int) ((x*2^s%4294967296:Nat):Int):=⟨q6w _,Sd x s h⟩
theorem HM(x y:Nat):qK .add .u32 (x:Int) (y:Int) (((x+y)%4294967296:Nat):Int):=by
 show IntKind.u32.wrap ((x:Int)+y)=_;rw[<-Int.natCast_add];exact M7 _
theorem Ly{x u i r:Nat}{out:List Nat}(h:SmallI x u i r out)(hi:i=0):qe out=x/u/\r=x%u/\ ∀v∈out,v<4294967296:=by subst hi;exact⟨h.fin.1,h.fin.2,h.hu⟩
structure CmpI (x y:Nat) (z:Int):Prop where
 h0: -1<=z
 h1:z<(limbs x).length
 hd:(limbs x).drop (z+1).toNat=(limbs y).drop (z+1).toNat
theorem CmpI.start{x y:Nat}(h:(limbs x).length=(limbs y).length):CmpI x y (((limbs x).length:Int) -1):=by
 refine⟨by omega,by omega,?_⟩;rw[show((((limbs x).length:Int) -1)+1).toNat=(limbs x).length by omega,List.drop_length,h,List.drop_length]
theorem CmpI.at{x y:Nat}{z:Int}(hl:(limbs x).length=(limbs y).length)(h:CmpI x y z)(hz:0<=z):
  ((limbs x).getD z.toNat 0=(limbs y).getD z.toNat 0->CmpI x y (z-1))/\((limbs x).getD z.toNat 0<(limbs y).getD z.toNat 0->qZ x y= -1)/\((limbs y).getD z.toNat 0<(limbs x).getD z.toNat 0->qZ x y=1):=by
 have h1:=h.h1;have hd:=h.hd;rw[show(z+1).toNat=z.toNat+1 by omega]at hd;have q:=K7 hl (show z.toNat<(limbs x).length by omega) hd;have q':=K7 hl.symm (show z.toNat<(limbs y).length by omega) hd.symm;refine⟨λe=>⟨by omega,by omega,?_⟩,λe=>?_,λe=>?_⟩
 .rw[show(z-1+1).toNat=z.toNat by omega];exact q.1 e
 .have:=q.2 e;rw[qZ,if_pos this]
 .have:=q'.2 e;rw[qZ,if_neg (by omega),if_neg (by omega)]
theorem CmpI.fin{x y:Nat}{z:Int}(h:CmpI x y z)(hz:z<0):qZ x y=0:=by
 have h0:=h.h0;have hd:=h.hd;rw[show(z+1).toNat=0 by omega]at hd;exact D1.2 (q0v hd)
theorem K5{x y:Nat}(h:(limbs x).length<(limbs y).length):qZ x y= -1:=by rw[qZ,if_pos (GG h)]
theorem K6{x y:Nat}(h:(limbs y).length<(limbs x).length):qZ x y=1:=by
 have:=GG h;rw[qZ,if_neg (by omega),if_neg (by omega)]
theorem LL(x y:Nat):(qZ x y).natAbs<=1:=by have:=q4r x y;omega
theorem Bnd.magLe{b:Bd}{x y:Nat}(h:Bnd .mag b x)(k:y<=x):Bnd .mag b y:=by
 cases b with
 |n b=>exact Cb h k
 |_=>exact h.elim
structure SmallZ (x u:Nat) (z:Int) (r:Nat) (out:List Nat):Prop where
 h0: -1<=z
 h:SmallI x u (z+1).toNat r out
theorem SmallZ.start{x u:Nat}(hu:0<u):SmallZ x u (((limbs x).length:Int) -1) 0 (List.replicate (limbs x).length 0):=by
 refine⟨by omega,?_⟩;rw[show((((limbs x).length:Int) -1)+1).toNat=(limbs x).length by omega];exact SmallI.start hu
theorem SmallZ.b{x u r:Nat}{z:Int}{out:List Nat}(h:SmallZ x u z r out): -1<=z/\z<(limbs x).length/\out.length=(limbs x).length/\r<u:=by
 have h0:=h.h0;have h1:=h.h.hi;exact⟨h0,by omega,h.h.hl,h.h.hr⟩
theorem SmallZ.step{x u r d:Nat}{z:Int}{out:List Nat}(h:SmallZ x u z r out)(hz:0<=z)(hd:d=r*2^32+(limbs x).getD z.toNat 0):
  SmallZ x u (z-1) (d%u) (out.set z.toNat (d/u%4294967296)):=by
 refine⟨by omega,?_⟩;have e1:(z+1).toNat-1=z.toNat:=by omega
 have:=h.h.step (d:=d) (by omega) (by rw[e1];exact hd);rw[show(z-1+1).toNat=z.toNat by omega]
 rwa [e1]at this
theorem SmallZ.fin{x u r:Nat}{z:Int}{out:List Nat}(h:SmallZ x u z r out)(hz:z<0):qe out=x/u/\r=x%u/\ ∀v∈out,v<4294967296:=
 Ly h.h (by omega)
structure WordZ (x:Nat) (z:Int) (v:Nat):Prop where
 h0: -1<=z
 h1:z<(limbs x).length
 hv:v=qe ((limbs x).drop (z+1).toNat)
theorem WordZ.start(x:Nat):WordZ x (((limbs x).length:Int) -1) 0:=by
 refine⟨by omega,by omega,?_⟩;rw[show((((limbs x).length:Int) -1)+1).toNat=(limbs x).length by omega,List.drop_length];rfl
theorem WordZ.lt{x v:Nat}{z:Int}(h:WordZ x z v)(hx:(limbs x).length<=2)(hz:0<=z):v<4294967296:=by
 rw[h.hv];exact XB hx (by omega)
theorem WordZ.step{x v:Nat}{z:Int}(h:WordZ x z v)(hz:0<=z):WordZ x (z-1) (v*2^32+(limbs x).getD z.toNat 0):=by
 have h1:=h.h1;refine⟨by omega,by omega,?_⟩;have:=Q6 (x:=x) (i:=z.toNat) (by omega);rw[show z.toNat+1=(z+1).toNat by omega,<-h.hv]at this;rw[show(z-1+1).toNat=z.toNat by omega];exact this
theorem WordZ.fin{x v:Nat}{z:Int}(h:WordZ x z v)(hz:z<0):v=x:=by
 have h0:=h.h0;have:=h.hv
 rwa [show(z+1).toNat=0 by omega,q6B,qL]at this
theorem RaiseI.fin'{x s i c:Nat}{out:List Nat}(h:RaiseI x s i c out)(hi:i=(limbs x).length)(hs:s<=32):
  out.set (limbs x).length c=padL (x*2^s) ((limbs x).length+1):=by
 subst hi;have hc:c<4294967296:=q7m h.hc (q7B (show 0<2 by omega) hs);have:=h.fin hs
 rwa [q7p hc]at this
theorem KI(v n:Nat): ∀u∈padL v n,Bnd (.nat .u32) (.n 4294967295) u:=λu hu=>q7i (Ff n v u hu)
theorem M6{b:Bd}{x:Nat}(h:Bnd .mag b x):(limbs x).length<=b.nb/32+1:=qv (q7h h.mag)
theorem Bnd.natLe{k:IntKind}{b:Bd}{x y:Nat}(h:Bnd (.nat k) b x)(hy:y<=x):Bnd (.nat k) b y:=by
 cases b with
 |n b=>exact q7k hy h
 |_=>exact h.elim
theorem magE(x:Nat)(b c:Bd):(WV.c (.one (.dt (.sl (.nat .u32)) b (limbs x)))).exp=(WV.c (.one (.dt .mag c x))).exp:=by
 show AV.c (.one ((qO (.sl (.nat .u32)) (limbs x)).headD _))=AV.c (.one ((qO .mag x).headD _));rw[Bp]
theorem I5{ls:List Nat}(h: ∀u∈ls,u<4294967296):(limbs (qe ls)).length<=ls.length:=
 Fc (k:=ls.length) (vM ls h)
theorem Bz{x m:Nat}(h:x<2^m):bl x<=m:=by
 rcases q7f x with e|e
 .subst e;rw[EO];exact q7G _
 .have h2:=EN (n:=x) (by omega)
  have h3:2^(bl x-1)<2^m:=q7l h2 h;have:=(Nat.pow_lt_pow_iff_right (show 1<2 by omega)).1 h3;omega
theorem Yb{x b:Nat}(h:x<=b):bl x<=Nat.log2 b+1:=Bz (q7l h Nat.lt_log2_self)
theorem NS{b:Bd}{k:IntKind}{x:Nat}(h:Bnd .mag b x):Bnd (.nat k) b (bl x):=by
 cases b with
 |n b=>exact Bz h
 |_=>exact h.elim
theorem H3(x:Nat):IntKind.u8.wrap (x:Int)=((x%256:Nat):Int):=by
 simp only[IntKind.wrap,IntKind.bits,IntKind.signed];simp
theorem JH{a b:Nat}(h:a+b<=18446744073709551615):qK .add .u64 (a:Int) (b:Int) ((a+b:Nat):Int):=by
 show IntKind.u64.wrap ((a:Int)+b)=_;rw[<-Int.natCast_add];exact wX (by omega)
structure DivZ (x y s:Nat) (z:Int) (ls ql:List Nat):Prop where
 h0: -1<=z
 h:DivI x y s (z+1).toNat ls ql
theorem DivZ.b{x y s:Nat}{z:Int}{ls ql:List Nat}(h:DivZ x y s z ls ql): -1<=z/\(z+1).toNat<=(limbs x).length+1-(limbs y).length/\ls.length=(limbs x).length+1/\ql.length=(limbs x).length+1-(limbs y).length:=
 ⟨h.h0,h.h.hi,h.h.hl,h.h.hql⟩
theorem DivZ.at{x y s j:Nat}{z:Int}{ls ql:List Nat}(h:DivZ x y s z ls ql)(hz:0<=z)(hj:j=z.toNat):DivI x y s (j+1) ls ql:=by
 have:=h.h
 rwa [show(z+1).toNat=j+1 by omega]at this
theorem DivZ.of{x y s j:Nat}{z:Int}{ls ql:List Nat}(hz:0<=z)(hj:j=z.toNat)(h:DivI x y s j ls ql):DivZ x y s (z-1) ls ql:=
 ⟨by omega,by rwa [show(z-1+1).toNat=j by omega]⟩
theorem DivZ.start{x y s n:Nat}(c:DivC x y s)(hn:n=(limbs x).length+1-(limbs y).length):DivZ x y s ((n:Int) -1) (padL (x*2^s) ((limbs x).length+1)) (List.replicate n 0):=by
 have:=c.hyx;subst hn;refine⟨by omega,?_⟩;rw[show((((limbs x).length+1-(limbs y).length:Nat):Int) -1+1).toNat=(limbs x).length+1-(limbs y).length by omega];exact DivI.start c
theorem DivZ.fin{x y s:Nat}{z:Int}{ls ql:List Nat}(h:DivZ x y s z ls ql)(hz:z<0):qe ql=x/y/\qe ls=x%y*2^s/\(∀u∈ql,u<4294967296)/\ ∀u∈ls,u<4294967296:=by
 have h0:=h.h0;have:=h.h;rw[show(z+1).toNat=0 by omega]at this;exact⟨this.fin.1,this.fin.2,this.hqu,this.hu⟩
theorem AbI.top'{y s j c:Nat}{l0 ls:List Nat}{n:Nat}(h:AbI y s j l0 n c ls)(hn:(limbs (y*2^s)).length=n)(hj:j+n<l0.length):
  ∃c2,qe ((ls.set (j+n) ((ls.getD (j+n) 0+c)%4294967296)).take (j+n+1))+4294967296^(j+n+1)*c2=qe (l0.take (j+n+1))+4294967296^j*(y*2^s)/\
  (ls.set (j+n) ((ls.getD (j+n) 0+c)%4294967296)).drop (j+n+1)=l0.drop (j+n+1)/\(ls.set (j+n) ((ls.getD (j+n) 0+c)%4294967296)).length=l0.length/\
  ∀u∈ls.set (j+n) ((ls.getD (j+n) 0+c)%4294967296),u<4294967296:=by
 have:=h.top hn hj
 rwa [q7p (show c<4294967296 by have:=h.hc;omega)]at this
theorem DownI.fin'{W s N i n:Nat}{ls:List Nat}(h:DownI W s N i ls)(hi: ¬i<(limbs W).length)(hn:n=(limbs W).length):qe (ls.take n)=W/2^s/\ ∀u∈ls.take n,u<4294967296:=by
 have h1:=h.hi;have e:i=(limbs W).length:=by omega
 subst hn e;exact⟨h.fin,λu hu=>h.hu u (q6Z hu)⟩
theorem P5{y s m:Nat}(hy:qJ y m)(hs:s<=32):qJ (y*2^s) (m+32):=by
 unfold qJ at*;rw[q7A];exact q7m (Nat.mul_lt_mul_of_pos_right hy (q7C (by omega))) (q7w _ (q7B (by omega) hs))
theorem IS{a s c:Nat}(ha:a<4294967296)(hs:s<=32)(hc:c<2^s):c+a*2^s<18446744073709551616:=by
 have h1:(2:Nat)^s<=4294967296:=q7B (show 0<2 by omega) hs;have h2:(a+1)*2^s<=4294967296*4294967296:=q7v ha h1;rw[q79]at h2;omega
theorem LP{s i:Nat}{l:List Nat}(hs:s<=32)(hu: ∀k,l.getD k 0<4294967296)(hi:i<l.length):
  qK .or .u32 (((l.set i (l.getD i 0/2^s)).getD i 0:Nat):Int) (((l.set i (l.getD i 0/2^s)).getD (i+1) 0*2^(32-s)%4294967296:Nat):Int)
   (((l.set i (l.getD i 0/2^s)).getD i 0+(l.set i (l.getD i 0/2^s)).getD (i+1) 0*2^(32-s)%4294967296:Nat):Int)/\
  (l.set i (l.getD i 0/2^s)).getD i 0+(l.set i (l.getD i 0/2^s)).getD (i+1) 0*2^(32-s)%4294967296<=4294967295:=by
 have h:=UP hs (hu i) (hu (i+1));rw[E0 hi,CR (by omega)];exact⟨TS (l.getD (i+1) 0%2^s) (32-s) h.2.2 h.1 h.2.1,by omega⟩
theorem wo(a b:Nat):Nat.gcd b (a%b)=Nat.gcd a b:=by
 rw[Nat.gcd_comm b,<-Nat.gcd_rec,Nat.gcd_comm]
def subC(x y:Nat):Int:=if x<y then 7 else 0
theorem PR(x y:Nat):(subC x y).natAbs<=7:=by unfold subC;split<;>decide
theorem Hy{x y:Nat}:subC x y=0↔y<=x:=by unfold subC;split<;>omega
def sgI(neg:Bool)(n:Nat):Int:=if neg then-(n:Int)else n
def qm(neg:Bool)(n d:Nat):Rat:=mkRat (sgI neg n) d
theorem Ml(neg:Bool)(n:Nat):(sgI neg n).natAbs=n:=by unfold sgI;split<;>simp
theorem DS(neg:Bool)(d:Nat):qm neg 0 d=0:=by unfold qm sgI;cases neg<;>simp
theorem Df(neg:Bool)(n:Nat):qm neg n 0=0:=by unfold qm;simp[Rat.mkRat_zero]
theorem jp{neg:Bool}{n d:Nat}(hd:0<d):(qm neg n d).num=sgI neg n/((Nat.gcd n d:Nat):Int)/\(qm neg n d).den=d/Nat.gcd n d:=by
 have h:qm neg n d=Rat.normalize (sgI neg n) d (by omega):=(Rat.normalize_eq_mkRat (by omega)).symm;have e:=Rat.normalize_eq (num:=sgI neg n) (den:=d) (by omega);rw[h,e];refine⟨?_,?_⟩
 .show sgI neg n/(((sgI neg n).natAbs.gcd d:Nat):Int)=_
  rw[Ml]
 .show d/(sgI neg n).natAbs.gcd d=_
  rw[Ml]
theorem jF{neg:Bool}{n d:Nat}(hd:0<d):(qm neg n d).num.natAbs=n/Nat.gcd n d:=by
 rw[(jp hd).1];unfold sgI;have hg:(Nat.gcd n d)∣n:=Nat.gcd_dvd_left n d;obtain⟨k,hk⟩:=hg;have hg0:0<Nat.gcd n d:=Nat.gcd_pos_of_pos_right _ hd;generalize Nat.gcd n d=g at*;subst hk;rw[Nat.mul_div_cancel_left _ hg0];split
 .rw[q6v,<-Int.mul_neg,Int.mul_ediv_cancel_left _ (by omega)];simp
 .rw[q6v,Int.mul_ediv_cancel_left _ (by omega)];simp
theorem jU{neg:Bool}{n d:Nat}(hn:0<n)(hd:0<d):decide ((qm neg n d).num<0)=neg:=by
 rw[(jp hd).1];have hg0:0<Nat.gcd n d:=Nat.gcd_pos_of_pos_right _ hd;obtain⟨k,hk⟩:=Nat.gcd_dvd_left n d;generalize Nat.gcd n d=g at*;subst hk;have hk0:0<k:=q7z (λe=>by subst e;simp at hn);unfold sgI;cases neg
 .simp only[q6t,if_false,q6v,Int.mul_ediv_cancel_left _ (show(g:Int)≠0 by omega)]
  simp
 .simp only[if_true]
  rw[q6v,<-Int.mul_neg,Int.mul_ediv_cancel_left _ (by omega)];simp;omega
theorem X7(a b:Bool)(n m:Nat):sgI a n*sgI b m=sgI (decide (a≠b)) (n*m):=by
 cases a<;>cases b<;>simp[sgI,q6v,Int.neg_mul,Int.mul_neg]
theorem KS(z:Int):sgI (decide (z<0)) z.natAbs=z:=by
 unfold sgI;split<;>simp_all<;>omega
theorem Ar(x:Rat):qm (decide (x.num<0)) x.num.natAbs x.den=x:=by
 unfold qm;rw[KS];exact Rat.mkRat_self x
theorem Mn(a b:Bool)(n m d e:Nat):qm a n d*qm b m e=qm (decide (a≠b)) (n*m) (d*e):=by
 unfold qm;rw[Rat.mkRat_mul_mkRat,X7]
theorem Fj(x y:Rat):qm (decide (decide (x.num<0)≠decide (y.num<0))) (x.num.natAbs*y.num.natAbs) (x.den*y.den)=x*y:=by
 rw[<-Mn,Ar,Ar]
theorem X8(a b:Bool)(n m:Nat){d e:Nat}(hd:0<d)(he:0<e):qm a n d+qm b m e=mkRat (sgI a (n*e)+sgI b (m*d)) (d*e):=by
 unfold qm;rw[Rat.mkRat_add_mkRat _ _ (by omega) (by omega)]
 congr 1
 unfold sgI;cases a<;>cases b<;>simp[q6v,Int.neg_mul]
theorem Sb(a:Bool)(n m:Nat):sgI a n+sgI a m=sgI a (n+m):=by cases a<;>simp[sgI]<;>omega
theorem q2J{a b:Bool}(h:a≠b){n m:Nat}(hm:m<=n):sgI a n+sgI b m=sgI a (n-m):=by
 cases a<;>cases b<;>simp_all [sgI]<;>omega
theorem q2K{a b:Bool}(h:a≠b){n m:Nat}(hm:n<=m):sgI a n+sgI b m=sgI b (m-n):=by
 cases a<;>cases b<;>simp_all [sgI]<;>omega
theorem qT{neg:Bool}{n d p:Nat}(hn:qJ n p)(hd:le2 d p)(h0:0<d):Bnd .rat (.n p) (qm neg n d):=by
 show qJ _ _/\le2 _ _;rw[jF h0,(jp h0).2];exact⟨Cb hn (q7b _ _),q7k (q7b _ _) hd⟩
theorem A6{x b:Nat}(h:x<=b):qJ x (Nat.log2 b+1):=q7l h Nat.lt_log2_self
theorem jL{b:Bd}{x:Rat}(h:Bnd .rat b x):(WV.c (.agg [.dt .rat b x])).ok:=qh h
def nlw(v:Nat):Nat:=if v/2^32=0 then 1 else 2
def vW(l:List Nat)(lo v:Nat):List Nat:=if v/2^32=0 then l.set (lo+0) (v%4294967296)else(l.set (lo+0) (v%4294967296)).set (lo+1) (v/2^32)
theorem KA(v:Nat):1<=nlw v/\nlw v<=2:=by unfold nlw;split<;>omega
theorem KL(l:List Nat)(lo v:Nat):(vW l lo v).length=l.length:=by unfold vW;split<;>simp
theorem RN{l:List Nat}{lo v:Nat}(hv:v<=18446744073709551615)(h: ∀u∈l,Bnd (.nat .u32) (.n 4294967295) u): ∀u∈vW l lo v,Bnd (.nat .u32) (.n 4294967295) u:=by
 have h1:=vJ (n:=lo+0) (Iq h) (q7q v (show 0<4294967296 by omega));unfold vW;split
 .exact λu hu=>q7i (h1 u hu)
 .exact λu hu=>q7i (vJ h1 (show v/2^32<4294967296 by omega) u hu)
theorem HY{v:Nat}(h0:0<v)(hv:v<=18446744073709551615):limbs v=if v/2^32=0 then[v%4294967296]else[v%4294967296,v/2^32]:=by
 rw[zl (by omega)];split
 .rename_i h
  rw[show v/4294967296=0 by omega];rw[A5]
 .rename_i h
  rw[zl (n:=v/4294967296) (by omega)];rw[show v/4294967296/4294967296=0 by omega,A5,q7p (show v/4294967296<4294967296 by omega)]
theorem Mo{n:Nat}(h0:0<n)(hn:n<=18446744073709551615):(vW (List.replicate 4 (0:Nat)) 0 n).take (nlw n)=limbs n:=by
 rw[HY h0 hn];unfold vW nlw
 split<;>simp[List.replicate]
theorem KW{n d:Nat}(h0:0<n)(hn:n<=18446744073709551615):(vW (vW (List.replicate 4 (0:Nat)) 0 n) (nlw n) d).take (nlw n)=limbs n:=by
 rw[HY h0 hn];unfold vW nlw
 split<;>split<;>simp[List.replicate]
theorem X9{n d:Nat}(h0:0<d)(hd:d<=18446744073709551615):((vW (vW (List.replicate 4 (0:Nat)) 0 n) (nlw n) d).drop (nlw n)).take (nlw n+nlw d-nlw n)=limbs d:=by
 rw[HY h0 hd,Nat.add_sub_cancel_left];unfold vW nlw
 split<;>split<;>simp[List.replicate]
theorem C6{d:Nat}(h0:d≠0)(h:(denL d).length=0):d=1:=by
 unfold denL at h;split at h
 .assumption
 .exact absurd (nl0.1 h) h0
theorem BA{d:Nat}(h: ¬(denL d).length=0):denL d=limbs d:=by
 unfold denL at h⊢;split
 .rename_i e;rw[if_pos e]at h;exact absurd rfl h
 .rfl
theorem V6{a b p q:Nat}(ha:a<=p)(hb:b<=q):Nat.gcd a b<=max p q:=by
 rcases q7f a with e|e
 .subst e;rw[Nat.gcd_zero_left];omega
 .have:=Nat.gcd_le_left b e;omega
theorem zA{E:Nat}(h1:(limbs E).length=1)(h2:(limbs E).getD 0 0=1):E=1:=by
 have:=wu (x:=E) (by omega);rw[h1]at this;simp only[Nat.sub_self,List.take_zero,qe,h2]at this;omega
theorem zq{D E:Nat}(h:E=D)(hn: ¬((limbs E).length=1/\(limbs E).getD 0 0=1)):limbs E=denL D:=by
 subst h;unfold denL;rw[if_neg];intro e;subst e;exact hn ⟨q1q,by rw[Aw];rfl⟩
theorem N7{E:Nat}(h1:(limbs E).length=1):(limbs E).getD 0 0=E:=by
 have:=wu (x:=E) (by omega);rw[h1]at this;simp only[Nat.sub_self,List.take_zero,qe,Nat.pow_zero,Nat.one_mul,q7F]at this;exact this.symm
def bigQ(x:Rat):Prop:=1<(limbs x.num.natAbs).length\/1<(denL x.den).length
instance(x:Rat):Decidable (bigQ x):=by unfold bigQ;infer_instance
def pn(x:Rat):Nat:=if bigQ x then 0 else x.num.natAbs
def pd(x:Rat):Nat:=if bigQ x then 0 else x.den
def pb(x:Rat):Bool:=decide (¬bigQ x)
theorem P9{x:Nat}(h:(limbs x).length<=1):x<4294967296:=by
 have h1:=vM (limbs x) (jo x);rw[qL]at h1;exact q7m h1 (q7B (n:=4294967296) (by omega) h)
theorem Hk(x:Rat):pn x<=4294967295:=by
 unfold pn;split
 .omega
 .rename_i h;unfold bigQ at h;exact q7i (P9 (by omega))
theorem Qw{d:Nat}(h:(denL d).length<=1):d<4294967296:=by
 unfold denL at h;split at h
 .omega
 .exact P9 h
theorem Hj(x:Rat):pd x<=4294967295:=by
 unfold pd;split
 .omega
 .rename_i h;unfold bigQ at h;exact q7i (Qw (by omega))
theorem Fe{x:Rat}(h:bigQ x):0=pn x/\0=pd x/\false=pb x:=by simp[pn,pd,pb,h]
theorem p_sm{x:Rat}(h: ¬bigQ x):x.num.natAbs=pn x/\x.den=pd x/\pb x=true:=by simp[pn,pd,pb,h]
theorem CG{x:Rat}(h:pb x=true):pn x=x.num.natAbs/\pd x=x.den/\0<pd x:=by
 have h: ¬bigQ x:=by simpa[pb]using h
 have:=p_sm h;have:=x.den_nz;omega
theorem Of{d:Nat}(h:(denL d).length=1):(denL d).getD 0 0=d:=by
 have h': ¬(denL d).length=0:=by omega
 rw[BA h']at h⊢;exact N7 h
theorem Ga{neg:Bool}{n d p:Nat}(hn:qJ n p)(hd:qJ d p):Bnd .rat (.n p) (qm neg n d):=by
 rcases q7f d with e|e
 .subst e;rw[Df]
  exact⟨q7C (by decide),q7C (by decide)⟩
 .exact qT hn (qX hd) e
theorem NT{g:Nat}(h0:0<g)(h:bl g<=1):g=1:=by
 have h1:=Gt g;have h2:2^bl g<=2^1:=q7B (by decide) h;omega
theorem CT{x y:Rat}{b c:Bd}(hx:Bnd .rat b x)(hy:Bnd .rat c y):Bnd .rat (.n (b.nb+c.nb)) (x*y):=by
 rw[<-Fj];exact qT (Fa hx.rat.1 hy.rat.1) (M4 hx.rat.2 hy.rat.2) (q7y x.den_pos y.den_pos)
theorem wP{x:Rat}(h:x.num.natAbs=0):x=0:=by
 have:x.num=0:=Int.natAbs_eq_zero.1 h;exact Rat.num_eq_zero.1 this
theorem Mm(v:Int):qm (decide (v<0)) v.natAbs 1=(v:Rat):=by
 unfold qm;rw[KS];exact(Rat.mkRat_one v)
theorem Au{v:Int}{b:Nat}(h:v.natAbs<=b):Bnd .rat (.n (Nat.log2 b+1)) (v:Rat):=by
 rw[<-Mm];exact qT (A6 h) (Nat.one_le_two_pow) (by decide)
def jb(x:Rat):Int:=if x.num.natAbs=0 then 0 else if x.num<0 then-1 else 1
theorem KU(x:Rat):(jb x).natAbs<=1:=by
 unfold jb;split
 .decide
 .split<;>decide
theorem HS{l m:List Nat}{i:Nat}(hl:l.length=m.length)(h:l.take i=m.take i)(hi:i<l.length):(l.getD i 0=m.getD i 0->l.take (i+1)=m.take (i+1))/\(l.getD i 0≠m.getD i 0->l≠m):=by
 refine⟨λe=>?_,λe e2=>e (by rw[e2])⟩;rw[q76 hi,q76 (by omega),h];simp only[q6E,q6I hi,q6I (show i<m.length by omega),Option.getD_some]at e;rw[e]
theorem Es {x y : Rat} (h : y.num.natAbs ≠ 0) : qm (decide (decide (x.num < 0) ≠ decide (y.num < 0))) (x.num.natAbs * y.den) (x.den * y.num.natAbs) = x / y := by
 have e : y⁻¹ = qm (decide (y.num < 0)) y.den y.num.natAbs := by
  conv => lhs; rw [<- Rat.num_divInt_den y]
  rw [Rat.inv_divInt];unfold qm sgI;by_cases hn : y.num < 0
  .simp only [hn, decide_true, if_true]
   rw [<- Rat.divInt_ofNat, <- Rat.neg_divInt_neg]
   congr 1; omega
  .simp only [hn, decide_false, q6t, if_false]
   rw [<- Rat.divInt_ofNat]
   congr 1; omega
 rw [Rat.div_def, e]
 conv => rhs; rw [<- Ar x]
 rw [Mn]
def yQ(s:Bool)(y:Rat):Rat:=qm s y.num.natAbs y.den
theorem Dj(y:Rat):yQ (decide (y.num<0)) y=y:=Ar y
theorem Qf(y:Rat):yQ (!decide (y.num<0)) y= -y:=by
 have h: -y=mkRat (-y.num) y.den:=by rw[<-Rat.neg_mkRat,Rat.mkRat_self]
 by_cases h0:y.num.natAbs=0
 .have:=wP h0
  subst this;rfl
 .rw[h];unfold yQ qm sgI
  congr 1
  by_cases hn:y.num<0
  .simp[hn];omega
  .simp[hn];omega
theorem JE(s:Bool)(x y:Rat):x+yQ s y=mkRat (sgI (decide (x.num<0)) (x.num.natAbs*y.den)+sgI s (y.num.natAbs*x.den)) (x.den*y.den):=by
 conv=>lhs;rw[<-Ar x]
 exact X8 _ _ _ _ x.den_pos y.den_pos
theorem BZ{s:Bool}{x y:Rat}(h:decide (x.num<0)=s):qm s (x.num.natAbs*y.den+y.num.natAbs*x.den) (x.den*y.den)=x+yQ s y:=by
 rw[JE,h,Sb];rfl
theorem BX{s:Bool}{x y:Rat}(h:decide (x.num<0)≠s)(hm:y.num.natAbs*x.den<=x.num.natAbs*y.den):qm (decide (x.num<0)) (x.num.natAbs*y.den-y.num.natAbs*x.den) (x.den*y.den)=x+yQ s y:=by
 rw[JE,q2J h hm];rfl
theorem BY{s:Bool}{x y:Rat}(h:decide (x.num<0)≠s)(hm:x.num.natAbs*y.den<=y.num.natAbs*x.den):qm s (y.num.natAbs*x.den-x.num.natAbs*y.den) (x.den*y.den)=x+yQ s y:=by
 rw[JE,q2K h hm];rfl
theorem EC(s:Bool)(n d e:Nat)(he:0<e):qm s (n*e) (d*e)=qm s n d:=by
 rcases q7f d with h|h
 .subst h;rw[q7H,Df,Df]
 .unfold qm
  rw[Rat.mkRat_eq_iff (Nat.ne_of_gt (q7y h he)) (Nat.ne_of_gt h)];have e1:sgI s (n*e)=sgI s n*(e:Int):=by unfold sgI;cases s<;>simp[q6v,Int.neg_mul]
  rw[e1,q6v,Int.mul_assoc,Int.mul_comm (e:Int)]
theorem TO{s:Bool}{x y:Rat}(hd:x.den=y.den)(h:decide (x.num<0)=s):qm s (x.num.natAbs+y.num.natAbs) x.den=x+yQ s y:=by
 rw[<-BZ h,<-hd,<-q79,EC _ _ _ _ x.den_pos]
theorem TM{s:Bool}{x y:Rat}(hd:x.den=y.den)(h:decide (x.num<0)≠s)(hm:y.num.natAbs<=x.num.natAbs):qm (decide (x.num<0)) (x.num.natAbs-y.num.natAbs) x.den=x+yQ s y:=by
 rw[<-BX h (by rw[hd];exact q7x _ hm),<-hd,<-Nat.sub_mul,EC _ _ _ _ x.den_pos]
theorem TN{s:Bool}{x y:Rat}(hd:x.den=y.den)(h:decide (x.num<0)≠s)(hm:x.num.natAbs<=y.num.natAbs):qm s (y.num.natAbs-x.num.natAbs) x.den=x+yQ s y:=by
 rw[<-BY h (by rw[hd];exact q7x _ hm),<-hd,<-Nat.sub_mul,EC _ _ _ _ x.den_pos]
theorem wm{d e:Nat}(hd:d≠0)(he:e≠0)(h:denL d=denL e):d=e:=by
 by_cases h1:d=1
 .subst h1
  have:(denL e).length=0:=by rw[<-h];rfl
  exact(C6 he this).symm
 .by_cases h2:e=1
  .subst h2
   exact C6 hd (by rw[h];rfl)
  .unfold denL at h
   rw[if_neg h1,if_neg h2]at h;have:=congrArg qe h
   rwa [qL,qL]at this
theorem DL{x y a b:Nat}(h:qJ x a)(k:le2 y b):qJ (x*y) (a+b):=by
 unfold qJ le2 at*;rw[q7A];exact q7l (q7w _ k) (Nat.mul_lt_mul_of_pos_right h (q7C (by decide)))
theorem HK{s:Bool}{x y:Rat}{b c:Bd}(hx:Bnd .rat b x)(hy:Bnd .rat c y):Bnd .rat (.n (b.nb+c.nb+1)) (x+yQ s y):=by
 have h1:=DL hx.rat.1 hy.rat.2;have h2:=DL hy.rat.1 hx.rat.2;have h3:=M4 hx.rat.2 hy.rat.2
 have h4:qJ (x.num.natAbs*y.den+y.num.natAbs*x.den) (b.nb+c.nb+1):=by
  rw[Nat.add_comm c.nb]at h2;have:=F9 h1 h2
  rwa [Nat.max_self]at this
 have hp:=q7y x.den_pos y.den_pos;have h5:le2 (x.den*y.den) (b.nb+c.nb+1):=B4 (Nat.le_succ _) h3;by_cases e:decide (x.num<0)=s
 .rw[<-BZ e];exact qT h4 h5 hp
 .rcases Nat.le_total (y.num.natAbs*x.den) (x.num.natAbs*y.den)with hm|hm
  .rw[<-BX e hm];exact qT (Cb h4 (by omega)) h5 hp
  .rw[<-BY e hm];exact qT (Cb h4 (by omega)) h5 hp
def cy(a b:Nat):Nat:=(a+b)/18446744073709551616
theorem q4w{a b:Nat}(h:a<=4294967295*4294967295)(k:b<=4294967295*4294967295):cy a b<=1:=by unfold cy;omega
theorem q0z{a b:Nat}(h:cy a b=0):(a+b)%18446744073709551616=a+b:=by unfold cy at h;omega
theorem FK{x y:Rat}{b c:Bd}(hx:Bnd .rat b x)(hy:Bnd .rat c y):Bnd .rat (.n (b.nb+c.nb+1)) (x+y):=by
 have:=HK (s:=decide (y.num<0)) hx hy
 rwa [Dj]at this
theorem Cg{x y:Rat}{b c:Bd}(hx:Bnd .rat b x)(hy:Bnd .rat c y):Bnd .rat (.n (b.nb+c.nb+1)) (x-y):=by
 have:=HK (s:=!decide (y.num<0)) hx hy
 rwa [Qf,<-Rat.sub_eq_add_neg]at this
theorem BR{x y:Rat}{b c:Bd}(hx:Bnd .rat b x)(hy:Bnd .rat c y):Bnd .rat (.n (b.nb+c.nb)) (x/y):=by
 by_cases h:y.num.natAbs=0
 .rw[wP h,Rat.div_def,Rat.inv_zero,Rat.mul_zero]
  exact⟨q7C (by decide),q7C (by decide)⟩
 .rw[<-Es h]
  have h2:=DL hy.rat.1 hx.rat.2;rw[Nat.add_comm,q7u]at h2;exact qT (DL hx.rat.1 hy.rat.2) (qX h2) (q7y x.den_pos (by omega))
theorem Tx{x y:Rat}(h:y.num.natAbs=0):0=x/y:=by rw[wP h,Rat.div_def,Rat.inv_zero,Rat.mul_zero]
def quoC(y:Rat):Int:=if y.num.natAbs=0 then 3 else 0
theorem Pt(y:Rat):(quoC y).natAbs<=3:=by unfold quoC;split<;>decide
theorem KT{y:Rat}:jb y=0↔y.num.natAbs=0:=by
 unfold jb;split
 .simp_all
 .split<;>simp_all
theorem Px{x:Rat}{b:Bd}(h:Bnd .rat b x):Int.natAbs (max ((bl x.num.natAbs:Nat):Int) ((bl x.den:Nat):Int))<=b.nb+(b.nb+1):=by
 have h1:=Bz h.rat.1;have h2:=Bz (A4 h.rat.2);omega
def j5(x y:Rat):Int:=if x<y then-1 else if x=y then 0 else 1
theorem K4(x y:Rat):(j5 x y).natAbs<=1:=by
 unfold j5;split
 .decide
 .split<;>decide
def cmpL(x y:Rat):Int:=qZ (x.num.natAbs*y.den) (y.num.natAbs*x.den)
theorem Ho{x y:Rat}:x=y↔x.num*y.den=y.num*x.den:=by
 constructor
 .intro h;subst h;rfl
 .intro h
  rw[<-Rat.mkRat_self x,<-Rat.mkRat_self y];exact(Rat.mkRat_eq_iff x.den_nz y.den_nz).2 h
theorem HP(x y:Rat):j5 x y=if x.num*y.den<y.num*x.den then-1 else if x.num*y.den=y.num*x.den then 0 else 1:=by
 unfold j5;by_cases h:x<y
 .rw[if_pos h,if_pos ((Rat.lt_iff x y).1 h)]
 .rw[if_neg h,if_neg (mt (Rat.lt_iff x y).2 h)]
  by_cases e:x=y
  .rw[if_pos e,if_pos (Ho.1 e)]
  .rw[if_neg e,if_neg (mt Ho.2 e)]
theorem PN(z:Int){d:Nat}(hd:0<d):(z<0->z*(d:Int)<0)/\(z=0->z*(d:Int)=0)/\(0<z->0<z*(d:Int)):=
 ⟨λh=>Int.mul_neg_of_neg_of_pos h (by omega),λh=>by rw[h,Int.zero_mul],λh=>Int.mul_pos h (by omega)⟩
theorem AC(x:Rat):(x.num<0/\jb x= -1)\/(x.num=0/\jb x=0)\/(0<x.num/\jb x=1):=by
 unfold jb;by_cases h:x.num.natAbs=0
 .rw[if_pos h];omega
 .rw[if_neg h]
  by_cases h2:x.num<0
  .rw[if_pos h2];omega
  .rw[if_neg h2];omega
theorem ER{x y:Rat}(h:jb x≠jb y):(jb x<jb y->j5 x y= -1)/\(¬jb x<jb y->j5 x y=1):=by
 have h1:=PN x.num y.den_pos;have h2:=PN y.num x.den_pos;have c1:=AC x;have c2:=AC y;rw[HP];generalize x.num*(y.den:Int)=A at*;generalize y.num*(x.den:Int)=B at*;refine⟨λhl=>?_,λhl=>?_⟩
 .rw[if_pos (by omega)]
 .rw[if_neg (by omega),if_neg (by omega)]
theorem LN{x y:Rat}(hs:jb x=jb y)(h: ¬x.num<0):j5 x y=cmpL x y:=by
 have c1:=AC x;have c2:=AC y;have e1:x.num*(y.den:Int)=((x.num.natAbs*y.den:Nat):Int):=by rw[q6v,Int.natAbs_of_nonneg (by omega)]
 have e2:y.num*(x.den:Int)=((y.num.natAbs*x.den:Nat):Int):=by rw[q6v,Int.natAbs_of_nonneg (by omega)]
 rw[HP,e1,e2];unfold cmpL qZ;generalize x.num.natAbs*y.den=A;generalize y.num.natAbs*x.den=B;by_cases g:A<B
 .rw[if_pos (by omega),if_pos g]
 .rw[if_neg (by omega),if_neg g]
  by_cases g2:A=B
  .rw[if_pos (by omega),if_pos g2]
  .rw[if_neg (by omega),if_neg g2]
theorem LM{x y:Rat}(hs:jb x=jb y)(h:x.num<0):j5 x y= -cmpL x y:=by
 have c1:=AC x;have c2:=AC y
 have e1:x.num*(y.den:Int)= -((x.num.natAbs*y.den:Nat):Int):=by
  rw[q6v,<-Int.neg_mul];congr 1;omega
 have e2:y.num*(x.den:Int)= -((y.num.natAbs*x.den:Nat):Int):=by
  rw[q6v,<-Int.neg_mul];congr 1;omega
 rw[HP,e1,e2];unfold cmpL qZ;generalize x.num.natAbs*y.den=A;generalize y.num.natAbs*x.den=B;by_cases g:A<B
 .rw[if_neg (by omega),if_neg (by omega),if_pos g];rfl
 .rw[if_neg g]
  by_cases g2:A=B
  .rw[if_neg (by omega),if_pos (by omega),if_pos g2];rfl
  .rw[if_pos (by omega),if_neg g2]
theorem Qv{a b c:Nat}(h:0<c):qZ (a*c) (b*c)=qZ a b:=by
 unfold qZ;simp only[Nat.mul_lt_mul_right h,Nat.mul_left_inj (Nat.ne_of_gt h)]
theorem Du{x y:Rat}(h:x.den=y.den):qZ x.num.natAbs y.num.natAbs=cmpL x y:=by
 unfold cmpL;rw[<-h,Qv x.den_pos]
theorem Oc{x y:Rat}(hx:pn x=x.num.natAbs/\pd x=x.den/\0<pd x)(hy:pn y=y.num.natAbs/\pd y=y.den/\0<pd y):cmpL x y=qZ (pn x*pd y) (pn y*pd x):=by
 unfold cmpL;rw[hx.1,hx.2.1,hy.1,hy.2.1]
theorem P3{a b:Nat}(h:limbs a=limbs b):a=b:=by
 have:=congrArg qe h
 rwa [qL,qL]at this
theorem DR(x y:Rat):x=y↔decide (x.num<0)=decide (y.num<0)/\limbs x.num.natAbs=limbs y.num.natAbs/\denL x.den=denL y.den:=by
 constructor
 .intro h;subst h;exact⟨rfl,rfl,rfl⟩
 .rintro⟨h1,h2,h3⟩
  rw[<-Ar x,<-Ar y,h1,P3 h2,wm x.den_nz y.den_nz h3]
theorem q5O{x y:Rat}(h: ¬decide (x.num<0)=decide (y.num<0)):false=decide (x=y):=(decide_eq_false (λe=>h ((DR x y).1 e).1)).symm
theorem q5P{x y:Rat}(h: ¬decide (limbs x.num.natAbs=limbs y.num.natAbs)=true):false=decide (x=y):=(decide_eq_false (λe=>h (decide_eq_true ((DR x y).1 e).2.1))).symm
theorem q5Q{x y:Rat}(h1:decide (x.num<0)=decide (y.num<0))(h2:decide (limbs x.num.natAbs=limbs y.num.natAbs)=true):decide (denL x.den=denL y.den)=decide (x=y):=by
 rw[decide_eq_decide,DR];exact⟨λh=>⟨h1,of_decide_eq_true h2,h⟩,λh=>h.2.2⟩
def minQ(x y:Rat):Rat:=if j5 y x<0 then y else x
def maxQ(x y:Rat):Rat:=if 0<j5 y x then y else x
theorem Kx{x y:Rat}{b c:Bd}(hx:Bnd .rat b x)(hy:Bnd .rat c y):Bnd .rat (.n (max b.nb c.nb)) (minQ x y):=by
 unfold minQ;split
 .exact⟨qk (Nat.le_max_right _ _) hy.rat.1,B4 (Nat.le_max_right _ _) hy.rat.2⟩
 .exact⟨qk (Nat.le_max_left _ _) hx.rat.1,B4 (Nat.le_max_left _ _) hx.rat.2⟩
theorem Kv{x y:Rat}{b c:Bd}(hx:Bnd .rat b x)(hy:Bnd .rat c y):Bnd .rat (.n (max b.nb c.nb)) (maxQ x y):=by
 unfold maxQ;split
 .exact⟨qk (Nat.le_max_right _ _) hy.rat.1,B4 (Nat.le_max_right _ _) hy.rat.2⟩
 .exact⟨qk (Nat.le_max_left _ _) hx.rat.1,B4 (Nat.le_max_left _ _) hx.rat.2⟩
theorem SubI.lt{x y i c s:Nat}{out:List Nat}(h:SubI x y i c out)(hi:i<(limbs x).length)(hs:s=c+(limbs y).getD i 0)(hl:(limbs x).getD i 0<s):
  SubI x y (i+1) 1 (out.set i (((limbs x).getD i 0+4294967296-s)%4294967296)):=by
 have h1:=qj x i;have h2:=qj y i;have hc:=h.hc;have:=h.step hi hs;have e:dif ((limbs x).getD i 0) s=(limbs x).getD i 0+18446744073709551616-s:=by rw[D3];omega
 rw[e,show((limbs x).getD i 0+18446744073709551616-s)/9223372036854775808=1 by omega,show((limbs x).getD i 0+18446744073709551616-s)%4294967296=((limbs x).getD i 0+4294967296-s)%4294967296 by omega]at this;exact this
theorem SubI.ge{x y i c s:Nat}{out:List Nat}(h:SubI x y i c out)(hi:i<(limbs x).length)(hs:s=c+(limbs y).getD i 0)(hl: ¬(limbs x).getD i 0<s):
  SubI x y (i+1) 0 (out.set i ((limbs x).getD i 0-s)):=by
 have h1:=qj x i;have:=h.step hi hs;have e:dif ((limbs x).getD i 0) s=(limbs x).getD i 0-s:=by rw[D3];omega
 rw[e,show((limbs x).getD i 0-s)/9223372036854775808=0 by omega,show((limbs x).getD i 0-s)%4294967296=(limbs x).getD i 0-s by omega]at this;exact this
def xw(x:Nat):Nat:=if(limbs x).length<=2 then x else 0
def xk(x:Nat):Bool:=decide ((limbs x).length<=2)
theorem q6p(x:Nat):xw x<=18446744073709551615:=by
 unfold xw;split
 .exact q7i (Kz (by assumption))
 .omega
theorem xw_y{x:Nat}(h:(limbs x).length<=2):xw x=x/\xk x=true:=⟨if_pos h,decide_eq_true h⟩
theorem xw_n{x:Nat}(h: ¬(limbs x).length<=2):xw x=0/\xk x=false:=⟨if_neg h,decide_eq_false h⟩
theorem PV{x:Nat}(h:(limbs x).length=2):(limbs x).getD 0 0+(limbs x).getD 1 0*2^32=x:=by
 have h1:=wu (x:=x) (by omega);rw[h]at h1;have h2:=j1 (limbs x) 0;simp only[Nat.reduceSub,q7F,List.take_zero,qe,Nat.pow_zero,Nat.pow_one,Nat.one_mul]at h1 h2;omega
theorem TV{v:Nat}(h:v≠0):bl v=bl (v/2^1)+1:=by
 by_cases e:v=1
 .subst e;decide
 .exact C1 (k:=1) (show 2^1<=v by omega)
theorem EG(l:List Nat)(u:Nat):qe (l++[u])=qe l+4294967296^l.length*u:=by rw[Ah];simp[qe]
theorem DU: ∀(n:Nat),qe (List.replicate n 0)=0
 |0=>rfl
 |n+1=>by rw[List.replicate_succ,qe,DU n]
theorem Il{l:List Nat}{u:Nat}(h: ∀v∈l,v<4294967296)(hu:u<4294967296): ∀v∈l++[u],v<4294967296:=by
 intro v hv;rcases q6T.1 hv with hv|hv
 .exact h v hv
 .rw[q70.1 hv];exact hu
theorem Kt{l:List Nat}(hu: ∀v∈l,v<4294967296)(h:(limbs (qe l)).length=l.length):l=limbs (qe l):=by
 have h1:=Hf hu;have h2:=Hf (jo (qe l));rw[qL,h]at h2;exact h1.trans h2.symm
theorem q5t{x n:Nat}(h:n<(limbs x).length):4294967296^n<=x:=by
 apply Nat.le_of_not_lt;intro hl;have:=Fc (n:=x) (k:=n) hl;unfold nl at this;omega
structure AddX (x y i c:Nat) (out:List Nat):Prop where
 hl:out.length=i
 hu: ∀u∈out,u<4294967296
 hc:c<=1
 hv:qe out+4294967296^i*c=qe ((limbs x).take i)+qe ((limbs y).take i)
 hi:i<=max (limbs x).length (limbs y).length+1
 hm:i=max (limbs x).length (limbs y).length+1->c=0/\4294967296^(max (limbs x).length (limbs y).length)<=x+y
theorem AddX.start(x y:Nat):AddX x y 0 0 []:=⟨rfl,λu hu=>by simp at hu,by omega,by simp[qe],by omega,λh=>by omega⟩
theorem AddX.le{x y i c:Nat}{out:List Nat}(h:AddX x y i c out)(hc:i<(limbs x).length\/i<(limbs y).length\/c≠0):i<=max (limbs x).length (limbs y).length:=by
 have:=h.hi;rcases q7n (max (limbs x).length (limbs y).length) i with e|e
 .have:=h.hm (by omega);omega
 .exact e
theorem AddX.step{x y i c s:Nat}{out:List Nat}(h:AddX x y i c out)(hc:i<(limbs x).length\/i<(limbs y).length\/c≠0)(hs:s=c+(limbs x).getD i 0+(limbs y).getD i 0):
  AddX x y (i+1) (s/2^32) (out++[s%4294967296]):=by
 have hx:=qj x i;have hy:=qj y i;have hc1:=h.hc;have hle:=h.le hc;refine⟨by simp[h.hl],Il h.hu (q7q _ (by omega)),by omega,?_,by omega,?_⟩
 .rw[EG,h.hl,j1,j1,q7D]
  have e:4294967296^i*(s%4294967296)+4294967296^i*4294967296*(s/2^32)=4294967296^i*s:=by
   rw[q7t,<-q7s,show s/2^32=s/4294967296 from rfl,Nat.mod_add_div]
  have e2:4294967296^i*s=4294967296^i*c+4294967296^i*(limbs x).getD i 0+4294967296^i*(limbs y).getD i 0:=by rw[hs,q7s,q7s]
  have:=h.hv;omega
 .intro e
  have hx0:(limbs x).getD i 0=0:=qS (by omega);have hy0:(limbs y).getD i 0=0:=qS (by omega);have hv:=h.hv;have hc0:c=1:=by omega
  rw[vG (by omega),vG (by omega),qL,qL,hc0,show i=max (limbs x).length (limbs y).length by omega]at hv;refine⟨by omega,by omega⟩
theorem AddX.step2{x y i c s u:Nat}{out:List Nat}(h:AddX x y i c out)(hc:i<(limbs x).length\/i<(limbs y).length\/c≠0)(hs:s=c+(limbs x).getD i 0+(limbs y).getD i 0)(hu:u=s%4294967296):
  AddX x y (i+1) (s/2^32) (out++[u]):=by subst hu;exact h.step hc hs
theorem AddX.fin{x y i c:Nat}{out:List Nat}(h:AddX x y i c out)(h1: ¬i<(limbs x).length)(h2: ¬i<(limbs y).length)(h0:c=0):out=limbs (x+y):=by
 have hv:=h.hv;rw[vG (by omega),vG (by omega),qL,qL,h0,Nat.mul_zero,q7a]at hv;rw[<-hv];refine Kt h.hu ?_;have l1:=I5 h.hu;have l2:(limbs x).length<=(limbs (qe out)).length:=zL (by omega);have l3:(limbs y).length<=(limbs (qe out)).length:=zL (by omega);have hl:=h.hl;have hi:=h.hi;rcases q7n (max (limbs x).length (limbs y).length) i with e|e
 .have h9:=(h.hm (by omega)).2
  have:max (limbs x).length (limbs y).length<(limbs (qe out)).length:=by
   apply Nat.lt_of_not_le;intro hl;have h3:=vM (limbs (qe out)) (jo _);rw[qL]at h3;have h4:=q7B (show 0<4294967296 by omega) hl;omega
  omega
 .omega
theorem Pb{a b:List Nat}(hb:b≠[])(h:A7 b=true):A7 (a++b)=true:=by
 induction a with
 |nil=>exact h
 |cons v r ih=>rw[List.cons_append,DO (by simp[hb])];exact ih
theorem FJ{x k:Nat}(hx:x≠0):List.replicate k 0++limbs x=limbs (x*4294967296^k):=by
 have hne:limbs x≠[]:=by rw[zl hx];simp
 have hu: ∀u∈List.replicate k 0++limbs x,u<4294967296:=by
  intro u hu;rcases q6T.1 hu with hu|hu
  .exact rep_lt k u hu
  .exact jo x u hu
 have:=DI hu (Pb hne (N8 x));rw[Ah,DU,qL,List.length_replicate,q7F,q7u]at this;exact this.symm
theorem IU(s:Nat):4294967296^(s/32)*2^(s%32)=2^s:=by
 rw[show(4294967296:Nat)=2^32 from rfl,<-Nat.pow_mul,<-q7A,Nat.div_add_mod]
structure UpX (x s i c:Nat) (out:List Nat):Prop where
 hl:out.length=s/32+i
 hu: ∀u∈out,u<4294967296
 hc:c<2^(s%32)
 hi:i<=(limbs x).length
 hv:qe out+4294967296^(s/32+i)*c=4294967296^(s/32)*(qe ((limbs x).take i)*2^(s%32))
theorem UpX.start(x s:Nat):UpX x s 0 0 (List.replicate (s/32) 0):=⟨by simp,rep_lt _,q7C (by omega),by omega,by simp[qe,DU]⟩
theorem UpX.step{x s i c d:Nat}{out:List Nat}(h:UpX x s i c out)(hi:i<(limbs x).length)(hd:d=c+(limbs x).getD i 0*2^(s%32)):UpX x s (i+1) (d/2^32) (out++[d%4294967296]):=by
 have hx:=qj x i;have hc:=h.hc;refine⟨by simp[h.hl];omega,Il h.hu (q7q _ (by omega)),?_,by omega,?_⟩
 .rw[q7c (by omega)]
  have h1:(limbs x).getD i 0*2^(s%32)<=4294967295*2^(s%32):=q7x _ (by omega);omega
 .rw[EG,h.hl,j1,<-q78,q7D]
  have e:4294967296^(s/32+i)*(d%4294967296)+4294967296^(s/32+i)*4294967296*(d/2^32)=4294967296^(s/32+i)*d:=by
   rw[q7t,<-q7s,show d/2^32=d/4294967296 from rfl,Nat.mod_add_div]
  have e2:4294967296^(s/32+i)*d=4294967296^(s/32+i)*c+4294967296^(s/32)*(4294967296^i*(limbs x).getD i 0*2^(s%32)):=by
   rw[hd,q7s,q7A];simp only[q7t]
  have:=h.hv;rw[q79,q7s];omega
theorem UpX.fin{x s i c:Nat}{out:List Nat}(h:UpX x s i c out)(hi: ¬i<(limbs x).length):qe (out++[c])=x*2^s/\ ∀u∈out++[c],u<4294967296:=by
 have hc:=h.hc;have h1:=q7B (show 0<2 by omega) (show s%32<=32 by omega);refine⟨?_,Il h.hu (by omega)⟩;have hv:=h.hv;rw[vG (by omega),qL]at hv;rw[EG,h.hl,hv,<-IU s,Nat.mul_left_comm]
theorem q6j{x s i c:Nat}{out:List Nat}(h:UpX x s i c out):c+(limbs x).getD i 0*2^(s%32)<18446744073709551616:=IS (qj x i) (by omega) h.hc
theorem Dw: ∀(k x:Nat),(limbs x).drop k=limbs (x/4294967296^k)
 |0,x=>by simp
 |k+1,x=>by
  by_cases e:x=0
  .subst e;simp[A5]
  .rw[zl e,List.drop_succ_cons,Dw k,q7D,q7u,Nat.div_div_eq_div_mul]
structure DownX (w r i:Nat) (out:List Nat):Prop where
 hl:out.length=(limbs w).length
 hi:i<=(limbs w).length
 hu: ∀u∈out,u<4294967296
 hv:qe (out.take i)=w/2^r%4294967296^i
theorem DownX.start(w r:Nat):DownX w r 0 (List.replicate (limbs w).length 0):=⟨by simp,by omega,rep_lt _,by simp[qe,Nat.mod_one]⟩
theorem QA{m r:Nat}(hr:r<=32):m/2^r%4294967296=(m%18446744073709551616)/2^r%4294967296:=by
 have h1:(2:Nat)^r*2^(64-r)=18446744073709551616:=by rw[<-q7A,show r+(64-r)=64 by omega]
 have h2:(2:Nat)^(64-r)=4294967296*2^(32-r):=by rw[show(4294967296:Nat)=2^32 from rfl,<-q7A];congr 1;omega
 have h3:=Nat.div_add_mod m 18446744073709551616;generalize m%18446744073709551616=v at*;rw[<-h3,<-h1,q7t,Nat.mul_add_div (q7C (by omega)),h2,q7t,Nat.mul_add_mod]
theorem DownX.step{w r i v:Nat}{out:List Nat}(h:DownX w r i out)(hr:r<=32)(hi:i<(limbs w).length)(hv:v=(limbs w).getD i 0+(limbs w).getD (i+1) 0*4294967296):
  DownX w r (i+1) (out.set i (v/2^r%4294967296)):=by
 have hl:=h.hl;refine⟨by simp[hl],by omega,vJ h.hu (q7q _ (by omega)),?_⟩;rw[zd (by omega),h.hv,Nat.mod_pow_succ]
 congr 2
 have e1:=Ap (jo w) i;have e2:=Ap (jo w) (i+1);rw[qL]at e1 e2;rw[q7D,<-Nat.div_div_eq_div_mul]at e2;rw[e1,e2]at hv;rw[Nat.div_div_eq_div_mul,q7u,<-Nat.div_div_eq_div_mul,@QA (w/4294967296^i) r hr]
 congr 2
 generalize w/4294967296^i=m at*;omega
theorem DownX.fin{w r i:Nat}{out:List Nat}(h:DownX w r i out)(hi: ¬i<(limbs w).length):qe out=w/2^r:=by
 have hv:=h.hv;have h1:=h.hi;have e:i=(limbs w).length:=by omega
 have hl:=h.hl;rw[vG (by omega)]at hv;rw[hv,q7p];have:=vM (limbs w) (jo w);rw[qL,<-e]at this;exact q7l (q7b _ _) this
theorem Ka(x s:Nat):x/4294967296^(s/32)/2^(s%32)=x/2^s:=by rw[Nat.div_div_eq_div_mul,IU]
theorem Oq{x s:Nat}(h:(limbs x).length<=s/32):0=x/2^s:=by
 rw[<-Ka,Nat.div_eq_of_lt (a:=x),Nat.zero_div];have h1:=vM (limbs x) (jo x);rw[qL]at h1;exact q7m h1 (q7B (by omega) h)
theorem J1: ∀{ls:List Nat}{k d:Nat},k<ls.length->ls.getD k 0=0->qe (ls.set k d)=qe ls+4294967296^k*d
 |u::r,0,d,_,h=>by simp at h;subst h;simp[qe];omega
 |u::r,k+1,d,hk,h=>by
  simp only[List.getD_cons_succ]at h;simp only[q6N]at hk;rw[List.set_cons_succ,qe,qe,J1 (by omega) h,q7D,q7s,<-q7t,q7u 4294967296 (4294967296^k)];omega
structure DX (A V L:Nat) (z:Int) (q:List Nat) (r:Nat):Prop where
 hz: -1<=z
 hz1:z<L
 hl:q.length=L
 hu: ∀u∈q,u<4294967296
 hv:A=qe q*V+r
 hr:r<V*4294967296^(z+1).toNat
 h0: ∀j:Nat,(j:Int)<=z->q.getD j 0=0
theorem DX.start{A V L n:Nat}(hn0:0<n)(hn:n=(limbs V).length)(hn:n<=(limbs A).length)(hL:L=(limbs A).length-n+1):DX A V L (((limbs A).length:Int) -n) (List.replicate L 0) A:=by
 refine⟨by omega,by omega,by simp,rep_lt _,by rw[DU];omega,?_,λj _=>?_⟩
 .have h1:=vM (limbs A) (jo A)
  rw[qL]at h1;have h2:=q5t (x:=V) (n:=n-1) (by omega);have h3:(4294967296:Nat)^(limbs A).length=4294967296^(n-1)*4294967296^((limbs A).length-n+1):=by rw[<-q7A];congr 1;omega
  rw[show((((limbs A).length:Int) -n+1).toNat)=(limbs A).length-n+1 by omega];rw[h3]at h1;exact q7m h1 (q7x _ h2)
 .simp[q6E,List.getElem?_replicate];split<;>rfl
structure EX (V k r d p:Nat):Prop where
 hp:p=V*d*4294967296^k
 hd:r/(V*4294967296^k)<=d
 h1:d<=4294967295
theorem DX.est{A V L n k T:Nat}{z:Int}{q:List Nat}{r:Nat}(h:DX A V L z q r)(hz:0<=z)(hk:k=z.toNat)(hV:0<V)(hn0:0<n)(hn:n=(limbs V).length)
  (hT:T=(limbs r).getD (k+n) 0*4294967296+(limbs r).getD (k+n-1) 0):
  EX V k r (min (T/(limbs V).getD (n-1) 0) 4294967295) (V*min (T/(limbs V).getD (n-1) 0) 4294967295*4294967296^k):=by
 have hP:=q7y hV (q7C (n:=k) (show 0<4294967296 by omega));have hr:=h.hr;rw[show(z+1).toNat=k+1 by omega,q7D,<-q7t]at hr;have hq:r/(V*4294967296^k)<4294967296:=by rw[q7c hP,q7u];exact hr
 refine⟨rfl,Nat.le_min.2 ⟨?_,by omega⟩,Nat.min_le_right _ _⟩;have hv:=FZ V (n-1) (by omega)
 have hvp:0<(limbs V).getD (n-1) 0:=by
  have:=wy (x:=V) (by omega);rw[<-hn]at this;omega
 rw[Nat.le_div_iff_mul_le hvp];have e1:=Ap (jo r) (k+n);have e2:=Ap (jo r) (k+n-1);rw[qL]at e1 e2;have hVl:=vM (limbs V) (jo V);rw[qL,<-hn]at hVl
 --the top of r
 have hT2:T=r/4294967296^(k+n-1):=by
  have hrl:r/4294967296^(k+n-1)<18446744073709551616:=by
   rw[q7c (q7C (by omega))]
   have e3:18446744073709551616*4294967296^(k+n-1)=4294967296^n*4294967296^k*4294967296:=by
    rw[<-q7A,show(18446744073709551616:Nat)=4294967296^2 from rfl,<-q7A,<-q7D];congr 1;omega
   rw[e3];refine q7m hr (q7x _ (q7x _ (q7h hVl)))
  have e4:r/4294967296^(k+n)=r/4294967296^(k+n-1)/4294967296:=by
   rw[Nat.div_div_eq_div_mul,<-q7D];congr 2;omega
  rw[e4]at e1;rw[hT,e1,e2];generalize r/4294967296^(k+n-1)=m at*;omega
 rw[hT2,Nat.le_div_iff_mul_le (q7C (by omega)),hv];have h5:V/4294967296^(n-1)*4294967296^(n-1)<=V:=Nat.div_mul_le_self _ _;have h6:r/(V*4294967296^k)*(V*4294967296^k)<=r:=Nat.div_mul_le_self _ _;have e5:(4294967296:Nat)^(k+n-1)=4294967296^(n-1)*4294967296^k:=by rw[<-q7A];congr 1;omega
 rw[e5,q7t,<-q7t (V/_)];exact q7k (q7w _ (q7x _ h5)) h6
theorem EX.gt{V k r d p:Nat}(h:EX V k r d p)(hV:0<V)(hc:r<p):1<=d/\V*4294967296^k<=p/\EX V k r (d-1) (p-V*4294967296^k):=by
 have hP:=q7y hV (q7C (n:=k) (show 0<4294967296 by omega));have h1:=h.h1;have hp:p=d*(V*4294967296^k):=by rw[h.hp,q7u V d,q7t]
 have hlt:r/(V*4294967296^k)<d:=by rw[q7c hP,<-hp];exact hc
 have hd1:1<=d:=q7l (q7G _) hlt;refine⟨hd1,?_,?_,Nat.le_sub_one_of_lt hlt,by omega⟩
 .rw[hp];exact Nat.le_mul_of_pos_left _ (by omega)
 .rw[q7u V (d-1),q7t,Nat.sub_mul,<-hp,Nat.one_mul]
theorem DX.next{A V L k d p:Nat}{z:Int}{q:List Nat}{r:Nat}(h:DX A V L z q r)(hz:0<=z)(hk:k=z.toNat)(hV:0<V)(e:EX V k r d p)(hc:p<=r):DX A V L (z-1) (q.set k d) (r-p):=by
 have hP:=q7y hV (q7C (n:=k) (show 0<4294967296 by omega));have hz1:=h.hz1;have hl:=h.hl;have h1:=e.h1;have hp:p=d*(V*4294967296^k):=by rw[e.hp,q7u V d,q7t]
 have hd:r<(d+1)*(V*4294967296^k):=by rw[<-q7c hP];exact Nat.lt_succ_of_le e.hd
 refine⟨by omega,by omega,by simp[hl],vJ h.hu (by omega),?_,?_,λj hj=>?_⟩
 .rw[J1 (by omega) (h.h0 k (by omega)),q79,h.hv]
  rw[q7u (4294967296^k) d,q7t,q7u (4294967296^k) V,<-hp];omega
 .rw[show(z-1+1).toNat=k by omega]
  rw[q79,<-hp]at hd;omega
 .rw[CR (by omega)];exact h.h0 j (by omega)
theorem DX.fin{x y s L:Nat}{z:Int}{q:List Nat}{r:Nat}(h:DX (x*2^s) (y*2^s) L z q r)(hy:0<y)(hz:z<0):qe q=x/y/\r/2^s=x%y:=by
 have hp:=q7C (n:=s) (show 0<2 by omega);have h1:=h.hz;have hr:=h.hr;have hv:=h.hv;rw[show(z+1).toNat=0 by omega,Nat.pow_zero,Nat.mul_one]at hr
 have e1:(x*2^s)/(y*2^s)=qe q:=by
  rw[hv,q7u (qe q),Nat.mul_add_div (q7y hy hp),Nat.div_eq_of_lt hr];rfl
 have e2:(x*2^s)%(y*2^s)=r:=by rw[hv,q7u (qe q),Nat.mul_add_mod,q7p hr]
 rw[Nat.mul_div_mul_right _ _ hp]at e1;rw[Nat.mul_mod_mul_right]at e2;exact⟨e1.symm,by rw[<-e2,Nat.mul_div_cancel _ hp]⟩
theorem IR{x k a c:Nat}(h:qJ x a)(hk:k<=c):qJ (x*4294967296^k) (a+32*c):=by
 unfold qJ at*;rw[show(4294967296:Nat)=2^32 from rfl,<-Nat.pow_mul,q7A];exact q7m (Nat.mul_lt_mul_of_pos_right h (q7C (by omega))) (q7w _ (q7B (by omega) (by omega)))
theorem q1i{x s a c:Nat}(h:qJ x a)(hs:s<=c):qJ (x*2^s) (a+c):=by
 unfold qJ at*;rw[q7A];exact q7m (Nat.mul_lt_mul_of_pos_right h (q7C (by omega))) (q7w _ (q7B (by omega) hs))
theorem I1{y:Nat}:qJ (y/4294967296^((limbs y).length-1)) 32:=by
 unfold qJ;rw[q7c (q7C (by omega)),show(2:Nat)^32=4294967296 from rfl,q7u,<-q7D];have h1:=vM (limbs y) (jo y);rw[qL]at h1;exact q7m h1 (q7B (by omega) (by omega))
theorem Y8{b:Nat}(h:b<4294967296):qK .or .u64 0 (b:Int) ((0+b:Nat):Int):=Cm (a:=0) (b:=b) 0 32 rfl h (by omega)
def dm(d:Nat):Nat:=if d=1 then 0 else d
theorem HQ(d:Nat):denL d=limbs (dm d):=by unfold denL dm;split<;>rfl
theorem Oi{d b:Nat}(h:le2 d b):qJ (dm d) (b+1):=by
 unfold dm;split
 .exact q7C (by omega)
 .exact A4 h
theorem q0E{d e:Nat}(hd:d≠0)(he:e≠0):qZ (dm d) (dm e)=0↔d=e:=by
 rw[D1];unfold dm;split<;>split<;>omega
theorem ysame{x y:Rat}(h: ¬decide (x.num<0)=decide (y.num<0)\/ ¬qZ x.num.natAbs y.num.natAbs=0\/ ¬qZ (dm x.den) (dm y.den)=0):false=decide (x=y):=by
 symm;apply decide_eq_false
 intro e;subst e
 rcases h with h|h|h
 .exact h rfl
 .exact h (D1.2 rfl)
 .exact h (D1.2 rfl)
theorem q3T{x y:Rat}(h1:decide (x.num<0)=decide (y.num<0))(h2:qZ x.num.natAbs y.num.natAbs=0):decide (qZ (dm x.den) (dm y.den)=0)=decide (x=y):=by
 have e:qZ (dm x.den) (dm y.den)=0↔x=y:=by
  rw[q0E x.den_nz y.den_nz,DR x y];constructor
  .intro h;exact⟨h1,by rw[D1.1 h2],by rw[h]⟩
  .rintro⟨_,_,h⟩;exact wm x.den_nz y.den_nz h
 rw[decide_eq_decide];exact e
theorem I4(x:Rat):(-x).num.natAbs=x.num.natAbs:=by rw[Rat.neg_num,Int.natAbs_neg]
theorem D7{x:Rat}{b:Bd}(h:Bnd .rat b x):Bnd .rat (.n b.nb) (-x):=by
 have h1:=h.rat;exact⟨by rw[I4];exact h1.1,by rw[Rat.neg_den];exact h1.2⟩
theorem q1o{x:Rat}(h: ¬x.num<0):decide (0<(limbs x.num.natAbs).length)=decide ((-x).num<0):=by
 rw[decide_eq_decide,Rat.neg_num];have:= @nl0 x.num.natAbs;omega
theorem q1p{x:Rat}(h:x.num<0):false=decide ((-x).num<0):=by
 symm;apply decide_eq_false;rw[Rat.neg_num];omega
theorem BO(v:Int):((v:Rat)).num=v:=Rat.num_intCast v
theorem F2(v:Int):((v:Rat)).den=1:=Rat.den_intCast v
def mkC'(d:Int):Int:=if d=0 then 3 else 0
theorem Tp(d:Int):(mkC' d).natAbs<=3:=by unfold mkC';split<;>decide
theorem I2(n d:Int):qm (decide (decide (n<0)≠decide (d<0))) n.natAbs d.natAbs=(n:Rat)/(d:Rat):=by
 by_cases h:d=0
 .subst h;simp[Df,Rat.div_def]
 .have:=Es (x:=(n:Rat)) (y:=(d:Rat)) (by rw[BO];omega)
  rw[BO,BO,F2,F2,Nat.mul_one,Nat.one_mul]at this;exact this
theorem zZ{n d:Int}{b c:Nat}(hn:n.natAbs<=b)(hd:d.natAbs<=c):Bnd .rat (.n (max (Nat.log2 b+1) (Nat.log2 c+1))) ((n:Rat)/(d:Rat)):=by
 rw[<-I2];exact Ga (qk (Nat.le_max_left _ _) (A6 hn)) (qk (Nat.le_max_right _ _) (A6 hd))
def Bd.mx:Bd->Nat
 | .u=>0
 | .n b=>b
 | .s _ e=>e.mx
 | .p a b=>max a.mx b.mx
abbrev V3:Type:=Rat×Rat×Rat
abbrev jj:Ty:= .pr .rat (.pr .rat .rat)
abbrev bV3(m:Nat):Bd:= .p (.n m) (.p (.n m) (.n m))
theorem Ag{b:Bd}{x:Rat}{m:Nat}(h:Bnd .rat b x)(hm:b.nb<=m):Bnd .rat (.n m) x:=by
 have h:=h.rat;exact⟨qk hm h.1,q7k h.2 (q7B (by omega) hm)⟩
theorem Bd.nb_mx(b:Bd):b.nb<=b.mx:=by cases b<;>simp[Bd.nb,Bd.mx]
theorem Bd.l_mx(b:Bd):b.l.mx<=b.mx:=by cases b<;>simp[Bd.l,Bd.mx]<;>omega
theorem Bd.r_mx(b:Bd):b.r.mx<=b.mx:=by cases b<;>simp[Bd.r,Bd.mx]<;>omega
theorem Bnd.ratM{b:Bd}{x:Rat}(h:Bnd .rat b x):Bnd .rat (.n b.mx) x:=Ag h b.nb_mx
theorem Bnd.v3{b:Bd}{x:V3}(h:Bnd jj b x):Bnd .rat (.n b.mx) x.1/\Bnd .rat (.n b.mx) x.2.1/\Bnd .rat (.n b.mx) x.2.2:=by
 have h1:=h.pr;have h2:=h1.2.pr;have:=b.l_mx;have:=b.r_mx;have:=b.r.l_mx;have:=b.r.r_mx
 exact⟨Ag h1.1 (q7k (Bd.nb_mx _) (by omega)),Ag h2.1 (q7k (Bd.nb_mx _) (by omega)),Ag h2.2 (q7k (Bd.nb_mx _) (by omega))⟩
theorem HE{m:Nat}{x:V3}(h:Bnd .rat (.n m) x.1/\Bnd .rat (.n m) x.2.1/\Bnd .rat (.n m) x.2.2):(WV.c (.agg [.dt jj (bV3 m) x])).ok:=qh h
def addV(p q:V3):V3:=(p.1+q.1,p.2.1+q.2.1,p.2.2+q.2.2)
def Bv(r:Rat)(p:V3):V3:=(r*p.1,r*p.2.1,r*p.2.2)
def dotQ(p q:V3):Rat:=p.1*q.1+p.2.1*q.2.1+p.2.2*q.2.2
theorem vH{x y:Rat}{a b:Nat}(hx:Bnd .rat (.n a) x)(hy:Bnd .rat (.n b) y):Bnd .rat (.n (a+b)) (x*y):=CT hx hy
theorem AI{x y:Rat}{a b:Nat}(hx:Bnd .rat (.n a) x)(hy:Bnd .rat (.n b) y):Bnd .rat (.n (a+b+1)) (x+y):=FK hx hy
theorem DT{x y:Rat}{a b:Nat}(hx:Bnd .rat (.n a) x)(hy:Bnd .rat (.n b) y):Bnd .rat (.n (a+b+1)) (x-y):=Cg hx hy
theorem NN{b c:Bd}{p q:V3}(hp:Bnd jj b p)(hq:Bnd jj c q):Bnd jj (bV3 (b.mx+c.mx+1)) (addV p q):=
 ⟨AI hp.v3.1 hq.v3.1,AI hp.v3.2.1 hq.v3.2.1,AI hp.v3.2.2 hq.v3.2.2⟩
theorem S9{b c:Bd}{r:Rat}{q:V3}(hp:Bnd .rat b r)(hq:Bnd jj c q):Bnd jj (bV3 (b.mx+c.mx)) (Bv r q):=
 ⟨vH hp.ratM hq.v3.1,vH hp.ratM hq.v3.2.1,vH hp.ratM hq.v3.2.2⟩
theorem qE{x:Rat}{a b:Nat}(h:Bnd .rat (.n a) x)(hm:a<=b):Bnd .rat (.n b) x:=Ag h hm
theorem q0H{b c:Bd}{p q:V3}(hp:Bnd jj b p)(hq:Bnd jj c q):Bnd .rat (.n (3*(b.mx+c.mx)+2)) (dotQ p q):=
 qE (AI (AI (vH hp.v3.1 hq.v3.1) (vH hp.v3.2.1 hq.v3.2.1)) (vH hp.v3.2.2 hq.v3.2.2)) (by omega)
theorem q3o{p q:V3}:p=q↔p.1=q.1/\p.2.1=q.2.1/\p.2.2=q.2.2:=by
 obtain⟨a,b,c⟩:=p;obtain⟨d,e,f⟩:=q;simp
theorem TK{p q:V3}(h: ¬p.1=q.1\/ ¬p.2.1=q.2.1\/ ¬p.2.2=q.2.2):false=decide (p=q):=by
 symm;apply decide_eq_false;intro e;subst e;simp at h
theorem nd{p:Prop}[Decidable p](h:(!decide p)=true): ¬p:=by simpa using h
theorem nd'{p:Prop}[Decidable p](h: ¬(!decide p)=true):p:=by simpa using h
theorem yd{p:Prop}[Decidable p](h:decide p=true):p:=of_decide_eq_true h
theorem yd'{p:Prop}[Decidable p](h: ¬decide p=true): ¬p:=λe=>h (decide_eq_true e)
theorem vq{α:Type}{l:List α}{d:α}{i:Nat}(h:i<l.length):l.getD i d=l[i]:=by simp[q6E,h]
theorem wT{α:Type}{l:List α}{d:α}{i:Nat}(h:i<l.length):l.take (i+1)=l.take i++[l.getD i d]:=by
 rw[vq h,q76 h]
theorem KR{α:Type}{l:List α}{v:α}{i:Nat}(h:i<l.length):(l.set i v).take (i+1)=l.take i++[v]:=by
 rw[q76 (by simpa using h),List.getElem_set_self]
 congr 1
 rw[List.take_set,List.set_eq_of_length_le (by simp;omega)]
structure Cpy {α:Type} (l out:List α) (i:Nat):Prop where
 hl:out.length=l.length
 hi:i<=l.length
 ht:out.take i=l.take i
theorem Cpy.start{α:Type}{l:List α}(d:α):Cpy l (List.replicate l.length d) 0:=⟨by simp,by omega,by simp⟩
theorem Cpy.step{α:Type}{l out:List α}{i:Nat}(h:Cpy l out i)(d:α)(hi:i<l.length):Cpy l (out.set i (l.getD i d)) (i+1):=
 ⟨by simp[h.hl],by omega,by rw[KR (by rw[h.hl];exact hi),wT hi,h.ht]⟩
theorem Cpy.fin{α:Type}{l out:List α}{i:Nat}(h:Cpy l out i)(hi: ¬i<l.length):out=l:=by
 have h1:=h.hl;have h2:=h.hi;have:=h.ht
 rwa [q75 (by omega),q75 (by omega)]at this
abbrev j4:Type:=List Int×Nat
abbrev vm:Ty:= .pr (.sl (.int .i64)) (.nat .i64)
theorem mod_a{a m:Int}(hm:0<m)(h:Int.tmod a m<0):Int.tmod a m+m=a%m:=by
 have h1:=Int.tmod_eq_emod (a:=a) (b:=m);have h2:=Int.emod_nonneg a (show m≠0 by omega);have h3:=Int.emod_lt_of_pos a hm;split at h1<;>omega
theorem q5r{a m:Int}(hm:0<m)(h: ¬Int.tmod a m<0):Int.tmod a m=a%m:=by
 have h1:=Int.tmod_eq_emod (a:=a) (b:=m);have h2:=Int.emod_nonneg a (show m≠0 by omega);have h3:=Int.emod_lt_of_pos a hm;split at h1<;>omega
theorem P6{a m:Int}{b:Nat}(hm:0<m)(hb:Int.natAbs m<=b):(a%m).natAbs<=b:=by
 have h2:=Int.emod_nonneg a (show m≠0 by omega);have h3:=Int.emod_lt_of_pos a hm;omega
def qd(s:j4)(m:Int):Int:=if s.1.length<=s.2 then 0 else s.1.getD s.2 0%m
def qb(s:j4):j4:=if s.1.length<=s.2 then s else(s.1,s.2+1)
theorem W5{s:j4}{m:Int}{b:Nat}(hm:0<m)(hb:Int.natAbs m<=b):(qd s m).natAbs<=b:=by
 unfold qd;split
 .simp
 .exact P6 hm hb
theorem jT(s:j4){m:Int}(hm:0<m):0<=qd s m/\qd s m<m:=by
 unfold qd;split
 .omega
 .exact⟨Int.emod_nonneg _ (by omega),Int.emod_lt_of_pos _ hm⟩
theorem BP{s:j4}{b:Bd}(h:Bnd vm b s):Bnd vm (.p b.l (.n (max b.r.nb b.l.len))) (qb s):=by
 have h1:=h.pr;have h2:=h1.2.nat;have h3:=h1.1.sl.1;unfold qb;split
 .exact⟨h1.1,q7k h2 (Nat.le_max_left _ _)⟩
 .refine⟨h1.1,?_⟩
  show s.2+1<=_;have:=Nat.le_max_right b.r.nb b.l.len;omega
theorem z5{s:j4}{b:Bd}(h:Bnd vm (.p b.l (.n (max b.r.nb b.l.len))) s):Bnd vm (.p b.l (.n (max b.r.nb b.l.len))) (qb s):=by
 have:=BP h;simpa[Bd.l,Bd.r,Bd.nb,Nat.max_assoc]using this
def numV(s:j4):Rat:=if qd (qb s) 4=3 then((qd s 13-6:Int):Rat)/((1+qd (qb (qb s)) 4:Int):Rat)else((qd s 13-6:Int):Rat)
def numS(s:j4):j4:=if qd (qb s) 4=3 then qb (qb (qb s))else qb (qb s)
theorem Pf{s:j4}{b:Bd}(h:Bnd vm b s):Bnd vm (.p b.l (.n (max b.r.nb b.l.len))) (numS s):=by
 have h1:=z5 (BP h);unfold numS;split
 .exact z5 h1
 .exact h1
theorem Ma{s:j4}{b:Bd}(h:Bnd vm (.p b.l (.n (max b.r.nb b.l.len))) s):Bnd vm (.p b.l (.n (max b.r.nb b.l.len))) (numS s):=by
 have h1:=z5 (z5 h);unfold numS;split
 .exact z5 h1
 .exact h1
theorem H9(s:j4):Bnd .rat (.n 5) (numV s):=by
 have h1:=jT s (m:=13) (by omega);have h2:=jT (qb (qb s)) (m:=4) (by omega);have e1:Nat.log2 19+1=5:=by decide
 have e2:max (Nat.log2 19+1) (Nat.log2 5+1)=5:=by decide
 unfold numV;split
 .have:=zZ (n:=qd s 13-6) (d:=1+qd (qb (qb s)) 4) (b:=19) (c:=5) (by omega) (by omega)
  rwa [e2]at this
 .have:=Au (v:=qd s 13-6) (b:=19) (by omega)
  rwa [e1]at this
def Af(s:j4):V3:=(numV s,numV (numS s),numV (numS (numS s)))
def zn(s:j4):j4:=numS (numS (numS s))
theorem KJ{s:j4}{b:Bd}(h:Bnd vm b s):Bnd vm (.p b.l (.n (max b.r.nb b.l.len))) (zn s):=by
 unfold zn;exact Ma (b:=b) (Ma (b:=b) (Pf (b:=b) h))
theorem KK(s:j4):Bnd jj (bV3 5) (Af s):=by
 have h1:=H9 s;have h2:=H9 (numS s);have h3:=H9 (numS (numS s))
 unfold Af;generalize numV s=a at*;generalize numV (numS s)=c at*;generalize numV (numS (numS s))=d at*
 exact⟨h1,h2,h3⟩
abbrev VX:FI:=⟨4,[(.sl (.int .i64))],[(.s 9223372036854775807 (.n 9223372036854775808))],λ_=>[],λb z=>(λ(l:List Int)=> .c (.one (.dt .bool .u (decide (l.length<=500))))) z⟩
theorem VY:VX.OK Tryz.prog:=qB hmix 6 Tryz.func4 rfl rfl (by decide) [] (λ(l:List Int) b hx hp=>qa trivial rfl) (λ(l:List Int) hx hp=>by
 refine⟨.nil,kcast (by kernel_rfl) ((Eq.refl (decide (l.length<=500))))⟩)
abbrev VW:Ctr Tryz.prog:=FI.c VY
abbrev q0F:FI:=⟨11,[(.int .i64),(.int .i64)],[(.n 9223372036854775808),(.n 1099511627776)],λz=>(λ(a:Int)(m:Int)=>[(0:Int)<m]) z.1 z.2,λb z=>(λ(a:Int)(m:Int)=> .c (.one (.dt (.int .i64) (.n (b1 b).nb) (a%m)))) z.1 z.2⟩
theorem q0G:q0F.OK Tryz.prog:=qB hmix 14 Tryz.func11 rfl rfl (by decide) [] (λ(a:Int)(m:Int) b hx hp=>qa (P6 (hp _ q6W) (Bnds.h2 hx).2.int) rfl) (λ(a:Int)(m:Int) hx hp=>by
 have hx0:Int.natAbs a<=9223372036854775808:=hx.1;have hx1:Int.natAbs m<=1099511627776:=hx.2;have hp0:(0:Int)<m:=hp _ (q6W)
 refine⟨.nil,kcast (by kernel_rfl) (I (?_:m≠0) (Sp (Int.tmod a m<0) (λh1=>(mod_a hp0 h1:(Int.tmod a m)+m=a%m)) (λh2=>(q5r hp0 h2:Int.tmod a m=a%m))))⟩<;>omega)
abbrev Oj:Ctr Tryz.prog:=FI.c q0G
abbrev UU:FO:=⟨6,[(.sl (.int .i64))],[(.s 1048576 (.n 9223372036854775808))],λ_=>[],λk b z=> .c (.one (.loc k 0)),λb z=>(λ(l:List Int)=> .rig [.dt (.pr (.sl (.int .i64)) (.nat .i64)) (.p (b0 b) (.n 0)) ((l,0))]) z⟩
theorem UV:UU.OK Tryz.prog:=mkO hmix 6 5 Tryz.func6 rfl rfl (by decide) [] (λ_=>rfl) (λ_ _ _=>rfl) (λ_ _=>rfl) (λ_ _ _=>⟨rfl,rfl⟩) (λ(l:List Int) k b hx hp=>⟨⟨trivial,rfl⟩,vI (show Bnd vm (.p (b0 b) (.n 0)) (l,0)from⟨Bnds.h1 hx,q7j _⟩)⟩) (λ(l:List Int) hx hp=>by
 refine bodyO.p (.nil) (kcast (by kernel_rfl) (q6q (rfl:(l,0)=(l,0)) (rfl:5=5))))
abbrev UT:CtrO Tryz.prog:=FO.c UV
abbrev UN:FB:=⟨8,(.pr (.sl (.int .i64)) (.nat .i64)),(.p (.s 1048576 (.n 9223372036854775808)) (.n 1048576)),[(.int .i64)],[(.n 1099511627776)],λs z=>(λ(m:Int)=>[(0:Int)<m]) z,λtb b s z=>(λ(m:Int)=> .c (.one (.dt (.int .i64) (.n (b0 b).nb) (qd s m)))) z,λs z=>qb s,λtb b=> .p tb.l (.n (max tb.r.nb tb.l.len))⟩
theorem UO:UN.OK Tryz.prog:=mkB' hmix 35 Tryz.func8 rfl rfl (by decide) [(11,.c Oj)] (λ_=>rfl) (λ_ _=>rfl) (λ_ _ _ _=>rfl) (λ(s:List Int×Nat)(m:Int) tb b hs hx hp=>⟨qa (W5 (hp _ q6W) (Bnds.h1 hx).int) rfl,BP hs⟩) (λ(s:List Int×Nat)(m:Int) hs hx hp=>by
 have hx0:Int.natAbs m<=1099511627776:=hx;have hp0:(0:Int)<m:=hp _ (q6W);have hsl:s.1.length<=1048576:=hs.1.1
 refine⟨.cond (.nil) (.h 4 9 (.ix s.2) (.nil)),kcast (by kernel_rfl) (Sp (s.1.length<=s.2) (λh1=>q6q ((if_pos h1).symm:s=qb s) (((if_pos h1).symm:0=qd s m))) (λh2=>I (?_:((s.2+1:Nat):Int) -1=((s.2:Nat):Int)) (I (?_:s.2<s.1.length) (I (hp0:(0:Int)<m) (q6q ((if_neg h2).symm:(s.1,s.2+1)=qb s) (((if_neg h2).symm:(s.1.getD s.2 0)%m=qd s m)))))))⟩<;>omega)
abbrev D4:CtrB Tryz.prog:=FB.c UO
abbrev q3k:FI:=⟨154,[(.sl (.nat .u32))],[(.s 1099511627776 (.n 4294967295))],λz=>(λ(ls:List Nat)=>[∀u∈ls,u<4294967296]) z,λb z=>(λ(ls:List Nat)=> .c (.one (.dt .mag (.n (32*(b0 b).len)) (qe ls)))) z⟩
theorem PU:q3k.OK Tryz.prog:=qB hmix 21 Tryz.func154 rfl rfl (by decide) [] (λ(ls:List Nat) b hx hp=>qa (DM (hp _ (q6W)) (Bnds.h1 hx).sl.1) rfl) (λ(ls:List Nat) hx hp=>by
 have hl0:ls.length<=1099511627776:=hx.1;have hp0: ∀u∈ls,u<4294967296:=hp _ (q6W)
 refine⟨.loop [.s 3 (.nat .i64) (.n 1099511627776)] (λ(k:Nat)=>k<=ls.length/\qe (ls.take k)=qe ls) (λ(k:Nat)=>k) (λ(k:Nat)=> .cond (.h 2 5 (.i .sub) (.cond (.h 3 1 (.i .sub) (.nil)) (.h 4 2 (.mag (qe ls) 70368744177664) (.nil)))) (.h 4 2 (.mag (qe ls) 70368744177664) (.nil))),kcast (by kernel_rfl) (I (⟨q7j _,by rw[q74]⟩:ls.length<=ls.length/\qe (ls.take ls.length)=qe ls) (λ(k:Nat)(hb1:HB [.s 3 (.nat .i64) (.n 1099511627776)] k)(hC:k<=ls.length/\qe (ls.take k)=qe ls)=>have hv6:=(show k<=1099511627776 from hb1);have hk:=hC.1;Sp (0<k) (λh2=>I (?_:1<=k) (I (?_:k-1<ls.length) (Sp (ls.getD (k-1) 0=0) (λh3=>I (?_:1<=k) (q6q (⟨by omega,EF hC.1 (by omega) hC.2 (by omega)⟩:k-1<=ls.length/\qe (ls.take (k-1))=qe ls) (?_:k-1<k))) (λh4=>I (?_:k<=ls.length) (I (wU hp0 hC.1 hC.2 (by omega):ls.take k=limbs (qe ls)) (I (qk (by decide) (DM hp0 hl0):qJ (qe ls) 70368744177664) ((Eq.refl (qe ls))))))))) (λh5=>I (?_:k<=ls.length) (I (wU hp0 hC.1 hC.2 (by omega):ls.take k=limbs (qe ls)) (I (qk (by decide) (DM hp0 hl0):qJ (qe ls) 70368744177664) ((Eq.refl (qe ls))))))))⟩<;>omega)
abbrev Ch:Ctr Tryz.prog:=FI.c PU
abbrev PT(b:List Bd)(ls:List Nat):WV:= .c (.one (.dt .mag (.n (32*(b0 b).len)) (qe ls)))
theorem Sl(ls:List Nat)(hx:Bnds [(.sl (.nat .u32))] [(.s 1099511627776 (.n 4294967295))] ls)(hp: ∀c0∈([∀u∈ls,u<4294967296]:List Prop),c0):Sig Tryz.prog 154 (argsE [(.sl (.nat .u32))] ls) (PT [(.s 1099511627776 (.n 4294967295))] ls).exp:=PU.sig ls hx hp
theorem Sk(b:List Bd)(x:Nat)(hx:Bnds [.mag] b x)(hp: ∀p∈([]:List Prop),p):(WV.c (.one (.dt .mag (b0 b) x))).ok:=qa (Bnds.h1 hx) rfl
theorem PS(x:Nat)(hx:Bnds [.mag] [.n 1099511627776] x)(hp: ∀p∈([]:List Prop),p):Sig Tryz.prog 154 (argsE [.mag] x) (WV.c (.one (.dt .mag (.n 1099511627776) x))).exp:=by
 have h:=Sl (limbs x) ⟨q7k (qv (q7h hx)) (by decide),(Bnd.limbs hx).2⟩ (by intro p hp;simp only[q6U,q72,or_false]at hp;subst hp;exact jo x);unfold PT at h;rw[qL,<-E7]at h;exact h
def BU:Ctr Tryz.prog:=⟨154,[.mag],[.n 1099511627776],λz=>[],λb z=> .c (.one (.dt .mag (b0 b) z)),λz hx hp=>PS z hx hp,λ_ _=>rfl,λb z hx hp=>Sk b z hx hp⟩
abbrev q3W:FI:=⟨158,[.mag,.mag],[(.n 1099511627776),(.n 1099511627776)],λ_=>[],λb z=>(λ(x:Nat)(y:Nat)=> .c (.one (.dt .mag (.n (max (b0 b).nb (b1 b).nb+1)) (x+y)))) z.1 z.2⟩
theorem q3X:q3W.OK Tryz.prog:=qB hmix 58 Tryz.func158 rfl rfl (by decide) [] (λ(x:Nat)(y:Nat) b hx hp=>qa (F9 (Bnds.h2 hx).1.mag (Bnds.h2 hx).2.mag) rfl) (λ(x:Nat)(y:Nat) hx hp=>by
 have hx0:qJ x 1099511627776:=hx.1;have hl0:(limbs x).length<=34359738369:=qv (q7h hx0);have hx1:qJ y 1099511627776:=hx.2;have hl1:(limbs y).length<=34359738369:=qv (q7h hx1)
 refine⟨.cond (.h 3 3 (.mk (.arr (.nat .u32) (.n 4294967295))) (.loop [.s 22 (.nat .i64) (.n 34359738369),.s 6 (.nat .u64) (.n 1),.a 19 (.nat .u32) (.n 4294967295)] (λ((i,c,out):Nat×Nat×List Nat)=>AddI y x i c out) (λ((i,c,out):Nat×Nat×List Nat)=>(limbs y).length-i) (λ((i,c,out):Nat×Nat×List Nat)=> .cond (.nil) (.pre 15 (.frz 19 true [5]) (.h 15 1 (.c Ch) (.nil)))))) (.h 3 3 (.mk (.arr (.nat .u32) (.n 4294967295))) (.loop [.s 22 (.nat .i64) (.n 34359738369),.s 6 (.nat .u64) (.n 1),.a 19 (.nat .u32) (.n 4294967295)] (λ((i,c,out):Nat×Nat×List Nat)=>AddI x y i c out) (λ((i,c,out):Nat×Nat×List Nat)=>(limbs x).length-i) (λ((i,c,out):Nat×Nat×List Nat)=> .cond (.nil) (.pre 15 (.frz 19 true [5]) (.h 15 1 (.c Ch) (.nil)))))),kcast (by kernel_rfl) (Sp ((limbs x).length<(limbs y).length) (λh1=>I (?_:((limbs y).length)+1=((limbs y).length)+1) (I (AddI.start y x:AddI y x 0 0 (List.replicate (((limbs y).length)+1) (0:Nat))) (λ(i:Nat)(c:Nat)(out:List Nat)(hb2:HB [.s 22 (.nat .i64) (.n 34359738369),.s 6 (.nat .u64) (.n 1),.a 19 (.nat .u32) (.n 4294967295)] (i,c,out))(hI:AddI y x i c out)=>have hv7:=(show i<=34359738369 from hb2.1);have hv8:=(show c<=1 from hb2.2.1);have hv9:=(show∀u∈out,u<=4294967295 from hb2.2.2);have hIl:=hI.hl;have hIi:=hI.hi;have hIc:=hI.hc;Sp (i<(limbs y).length) (λh3=>I (?_:i<(limbs y).length) (Sp (i<(limbs x).length) (λh4=>I (?_:i<(limbs x).length) (I (?_:i<((limbs y).length)+1) (I (?_:i<out.length) (I (show(i+1)<=34359738369 by omega:Bnd (.nat .i64) (.n 34359738369) (i+1)) (q6q (hI.step (by omega) (by first|rfl|rw[qS (l:=limbs x) (by omega),q7a]):AddI y x (i+1) (((c+((limbs y).getD i 0))+((limbs x).getD i 0))/2^32) (out.set i (((c+((limbs y).getD i 0))+((limbs x).getD i 0))%4294967296))) (?_:(limbs y).length-(i+1)<(limbs y).length-i)))))) (λh5=>I (?_:i<((limbs y).length)+1) (I (?_:i<out.length) (I (show(i+1)<=34359738369 by omega:Bnd (.nat .i64) (.n 34359738369) (i+1)) (q6q (hI.step (by omega) (by first|rfl|rw[qS (l:=limbs x) (by omega),q7a]):AddI y x (i+1) ((c+((limbs y).getD i 0))/2^32) (out.set i ((c+((limbs y).getD i 0))%4294967296))) (?_:(limbs y).length-(i+1)<(limbs y).length-i))))))) (λh6=>have hF:=hI.fin' (by omega) (by omega);I (?_:(limbs y).length<((limbs y).length)+1) (I (?_:(limbs y).length<out.length) (I (GJ (by omega):((limbs y).length)+1=(out.set ((limbs y).length) c).length) (I (hF.2: ∀u∈out.set ((limbs y).length) c,u<4294967296) ((by rw[hF.1]<;>omega:qe (out.set ((limbs y).length) c)=x+y))))))))) (λh10=>I (?_:((limbs x).length)+1=((limbs x).length)+1) (I (AddI.start x y:AddI x y 0 0 (List.replicate (((limbs x).length)+1) (0:Nat))) (λ(i:Nat)(c:Nat)(out:List Nat)(hb11:HB [.s 22 (.nat .i64) (.n 34359738369),.s 6 (.nat .u64) (.n 1),.a 19 (.nat .u32) (.n 4294967295)] (i,c,out))(hI:AddI x y i c out)=>have hv16:=(show i<=34359738369 from hb11.1);have hv17:=(show c<=1 from hb11.2.1);have hv18:=(show∀u∈out,u<=4294967295 from hb11.2.2);have hIl:=hI.hl;have hIi:=hI.hi;have hIc:=hI.hc;Sp (i<(limbs x).length) (λh12=>I (?_:i<(limbs x).length) (Sp (i<(limbs y).length) (λh13=>I (?_:i<(limbs y).length) (I (?_:i<((limbs x).length)+1) (I (?_:i<out.length) (I (show(i+1)<=34359738369 by omega:Bnd (.nat .i64) (.n 34359738369) (i+1)) (q6q (hI.step (by omega) (by first|rfl|rw[qS (l:=limbs y) (by omega),q7a]):AddI x y (i+1) (((c+((limbs x).getD i 0))+((limbs y).getD i 0))/2^32) (out.set i (((c+((limbs x).getD i 0))+((limbs y).getD i 0))%4294967296))) (?_:(limbs x).length-(i+1)<(limbs x).length-i)))))) (λh14=>I (?_:i<((limbs x).length)+1) (I (?_:i<out.length) (I (show(i+1)<=34359738369 by omega:Bnd (.nat .i64) (.n 34359738369) (i+1)) (q6q (hI.step (by omega) (by first|rfl|rw[qS (l:=limbs y) (by omega),q7a]):AddI x y (i+1) ((c+((limbs x).getD i 0))/2^32) (out.set i ((c+((limbs x).getD i 0))%4294967296))) (?_:(limbs x).length-(i+1)<(limbs x).length-i))))))) (λh15=>have hF:=hI.fin' (by omega) (by omega);I (?_:(limbs x).length<((limbs x).length)+1) (I (?_:(limbs x).length<out.length) (I (GJ (by omega):((limbs x).length)+1=(out.set ((limbs x).length) c).length) (I (hF.2: ∀u∈out.set ((limbs x).length) c,u<4294967296) ((by rw[hF.1]<;>omega:qe (out.set ((limbs x).length) c)=x+y))))))))))⟩<;>omega)
abbrev add_c:Ctr Tryz.prog:=FI.c q3X
abbrev mul_i:FI:=⟨92,[.mag,.mag],[(.n 1099511627776),(.n 1099511627776)],λ_=>[],λb z=>(λ(x:Nat)(y:Nat)=> .c (.one (.dt .mag (.n ((b0 b).nb+(b1 b).nb)) (x*y)))) z.1 z.2⟩
theorem q5s:mul_i.OK Tryz.prog:=qB hmix 69 Tryz.func92 rfl rfl (by decide) [] (λ(x:Nat)(y:Nat) b hx hp=>qa (Fa (Bnds.h2 hx).1.mag (Bnds.h2 hx).2.mag) rfl) (λ(x:Nat)(y:Nat) hx hp=>by
 have hx0:qJ x 1099511627776:=hx.1;have hl0:(limbs x).length<=34359738369:=qv (q7h hx0);have hx1:qJ y 1099511627776:=hx.2;have hl1:(limbs y).length<=34359738369:=qv (q7h hx1)
 refine⟨.h 1 5 (.mk (.arr (.nat .u32) (.n 4294967295))) (.loop [.s 19 (.nat .i64) (.n 34359738369),.a 16 (.nat .u32) (.n 4294967295)] (λ((i,out):Nat×List Nat)=>MulI x y i out) (λ((i,out):Nat×List Nat)=>(limbs x).length-i) (λ((i,out):Nat×List Nat)=> .cond (.cond (.nil) (.loop [.s 28 (.nat .i64) (.n 34359738369),.s 8 (.nat .u64) (.n 4294967295),.a 16 (.nat .u32) (.n 4294967295)] (λ((j,c,out2):Nat×Nat×List Nat)=>MulJ x y i ((limbs x).getD i 0) j c out out2) (λ((j,c,out2):Nat×Nat×List Nat)=>(limbs y).length-j) (λ((j,c,out2):Nat×Nat×List Nat)=> .nil))) (.pre 16 (.frz 16 true [5]) (.h 16 1 (.c Ch) (.nil))))),kcast (by kernel_rfl) (I (?_:((limbs x).length)+((limbs y).length)=((limbs x).length)+((limbs y).length)) (I (MulI.start x y:MulI x y 0 (List.replicate (((limbs x).length)+((limbs y).length)) (0:Nat))) (λ(i:Nat)(out:List Nat)(hb1:HB [.s 19 (.nat .i64) (.n 34359738369),.a 16 (.nat .u32) (.n 4294967295)] (i,out))(hM:MulI x y i out)=>have hv12:=(show i<=34359738369 from hb1.1);have hv13:=(show∀u∈out,u<=4294967295 from hb1.2);have hMl:=hM.hl;have hMi:=hM.hi;Sp (i<(limbs x).length) (λh2=>I (?_:i<(limbs x).length) (Sp ((limbs x).getD i 0=0) (λh3=>I (show(i+1)<=34359738369 by omega:Bnd (.nat .i64) (.n 34359738369) (i+1)) (q6q (hM.skip (by omega) (by omega):MulI x y (i+1) out) (?_:(limbs x).length-(i+1)<(limbs x).length-i))) (λh4=>I (MulJ.start hM:MulJ x y i ((limbs x).getD i 0) 0 0 out out) (λ(j:Nat)(c:Nat)(out2:List Nat)(hb5:HB [.s 28 (.nat .i64) (.n 34359738369),.s 8 (.nat .u64) (.n 4294967295),.a 16 (.nat .u32) (.n 4294967295)] (j,c,out2))(hJ:MulJ x y i ((limbs x).getD i 0) j c out out2)=>have hv8:=(show j<=34359738369 from hb5.1);have hv9:=(show c<=4294967295 from hb5.2.1);have hv10:=(show∀u∈out2,u<=4294967295 from hb5.2.2);have hJl:=hJ.hl;have hJj:=hJ.hj;have hJc:=hJ.hc;Sp (j<(limbs y).length) (λh6=>I (?_:j<(limbs y).length) (I (?_:i+j<((limbs x).length)+((limbs y).length)) (I (?_:i+j<out2.length) (I (?_:i+j<((limbs x).length)+((limbs y).length)) (I (?_:i+j<out2.length) (I (show(j+1)<=34359738369 by omega:Bnd (.nat .i64) (.n 34359738369) (j+1)) (q6q ((hJ.step (by omega) (by omega) (qj x i) rfl).1:MulJ x y i ((limbs x).getD i 0) (j+1) ((c+((((limbs x).getD i 0)*((limbs y).getD j 0))+(out2.getD (i+j) 0)))/2^32) out (out2.set (i+j) ((c+((((limbs x).getD i 0)*((limbs y).getD j 0))+(out2.getD (i+j) 0)))%4294967296))) (?_:(limbs y).length-(j+1)<(limbs y).length-j)))))))) (λh7=>I (?_:i+((limbs y).length)<((limbs x).length)+((limbs y).length)) (I (?_:i+((limbs y).length)<out2.length) (I (show(i+1)<=34359738369 by omega:Bnd (.nat .i64) (.n 34359738369) (i+1)) (q6q (MulJ.fin' hM (by omega) hJ (by omega):MulI x y (i+1) (out2.set (i+((limbs y).length)) c)) (?_:(limbs x).length-(i+1)<(limbs x).length-i))))))))) (λh11=>I (?_:((limbs x).length)+((limbs y).length)=out.length) (have hF:=hM.fin' (by omega);I (hF.2: ∀u∈out,u<4294967296) ((hF.1:qe out=x*y)))))))⟩<;>omega)
abbrev mul_c:Ctr Tryz.prog:=FI.c q5s
abbrev q4s:FI:=⟨91,[.mag,.mag],[(.n 1099511627776),(.n 1099511627776)],λ_=>[],λb z=>(λ(x:Nat)(y:Nat)=> .c (.one (.dt (.int .i64) (.n 1) (qZ x y)))) z.1 z.2⟩
theorem q4t:q4s.OK Tryz.prog:=qB hmix 45 Tryz.func91 rfl rfl (by decide) [(154,.c BU)] (λ(x:Nat)(y:Nat) b hx hp=>qa (LL x y) rfl) (λ(x:Nat)(y:Nat) hx hp=>by
 have hx0:qJ x 1099511627776:=hx.1;have hl0:(limbs x).length<=34359738369:=qv (q7h hx0);have hx1:qJ y 1099511627776:=hx.2;have hl1:(limbs y).length<=34359738369:=qv (q7h hx1)
 refine⟨.cond (.nil) (.loop [.s 5 (.int .i64) (.n 68719476736)] (λ(z:Int)=>CmpI x y z) (λ(z:Int)=>(z+1).toNat) (λ(z:Int)=> .cond (.h 9 2 (.ix z.toNat) (.h 9 6 (.ix z.toNat) (.cond (.h 10 2 (.ix z.toNat) (.h 10 6 (.ix z.toNat) (.nil))) (.nil)))) (.nil))),kcast (by kernel_rfl) (Sp ((limbs x).length≠(limbs y).length) (λh1=>Sp ((limbs x).length<(limbs y).length) (λh2=>(?_:(-1)=qZ x y)) (λh3=>(?_:1=qZ x y))) (λh4=>I (CmpI.start (by omega):CmpI x y ((((limbs x).length:Nat):Int) -1)) (λ(z:Int)(hb5:HB [.s 5 (.int .i64) (.n 68719476736)] z)(hC:CmpI x y z)=>have hv12:=(show Int.natAbs z<=68719476736 from hb5);have hC0:=hC.h0;have hC1:=hC.h1;Sp (0<=z) (λh6=>I (?_:z=((z.toNat:Nat):Int)) (I (?_:z.toNat<(limbs x).length) (I (?_:z=((z.toNat:Nat):Int)) (I (?_:z.toNat<(limbs y).length) (Sp ((limbs x).getD z.toNat 0≠(limbs y).getD z.toNat 0) (λh7=>I (?_:z=((z.toNat:Nat):Int)) (I (?_:z.toNat<(limbs x).length) (I (?_:z=((z.toNat:Nat):Int)) (I (?_:z.toNat<(limbs y).length) (Sp ((limbs x).getD z.toNat 0<(limbs y).getD z.toNat 0) (λh8=>(?_:(-1)=qZ x y)) (λh9=>(?_:1=qZ x y))))))) (λh10=>I (show Int.natAbs (z-1)<=68719476736 by omega:Bnd (.int .i64) (.n 68719476736) (z-1)) (q6q ((hC.at (by omega) (by omega)).1 (by omega):CmpI x y (z-1)) (?_:((z-1)+1).toNat<(z+1).toNat)))))))) (λh11=>((hC.fin (by omega)).symm:0=qZ x y)))))⟩<;>first|omega|(first|exact(K5 (by omega)).symm|exact((hC.at (by omega) (by omega)).2.1 (by omega)).symm)|(first|exact(K6 (by omega)).symm|exact((hC.at (by omega) (by omega)).2.2 (by omega)).symm))
abbrev ML:Ctr Tryz.prog:=FI.c q4t
abbrev q62:FI:=⟨160,[.mag,.mag],[(.n 1099511627776),(.n 1099511627776)],λ_=>[],λb z=>(λ(x:Nat)(y:Nat)=> .tup [.one (.dt .mag (b0 b) (x-y)),.one (.dt (.int .i64) (.n 7) (subC x y))]) z.1 z.2⟩
theorem q63:q62.OK Tryz.prog:=qB hmix 54 Tryz.func160 rfl rfl (by decide) [(91,.c ML),(154,.c BU)] (λ(x:Nat)(y:Nat) b hx hp=>qc (qa (Bnd.magLe (Bnds.h2 hx).1 (Nat.sub_le _ _)) rfl) (qc (qa (PR x y) rfl) qy)) (λ(x:Nat)(y:Nat) hx hp=>by
 have hx0:qJ x 1099511627776:=hx.1;have hl0:(limbs x).length<=34359738369:=qv (q7h hx0);have hx1:qJ y 1099511627776:=hx.2;have hl1:(limbs y).length<=34359738369:=qv (q7h hx1)
 refine⟨.cond (.nil) (.h 4 2 (.mk (.arr (.nat .u32) (.n 4294967295))) (.loop [.s 23 (.nat .i64) (.n 34359738369),.s 7 (.nat .u64) (.n 1),.a 20 (.nat .u32) (.n 4294967295)] (λ((i,c,out):Nat×Nat×List Nat)=>SubI x y i c out) (λ((i,c,out):Nat×Nat×List Nat)=>(limbs x).length-i) (λ((i,c,out):Nat×Nat×List Nat)=> .cond (.cond (.h 12 3 (.i (.n (dif ((limbs x).getD i 0) (c+((limbs y).getD i 0))) 18446744073709551615)) (.nil)) (.h 12 3 (.i (.n (dif ((limbs x).getD i 0) c) 18446744073709551615)) (.nil))) (.pre 16 (.frz 20 true [6]) (.h 16 1 (.c Ch) (.nil)))))),kcast (by kernel_rfl) (Sp (qZ x y<0) (λh1=>q6q (by have:=vw.1 (show qZ x y<0 by assumption);omega:0=x-y) ((if_pos (vw.1 (by assumption))).symm:7=subC x y)) (λh2=>have hp0:=(show y<=x from Nat.le_of_not_lt (mt vw.2 (by assumption)));have hlen:=zL hp0;I (?_:(limbs x).length=(limbs x).length) (I (SubI.start x y:SubI x y 0 0 (List.replicate ((limbs x).length) (0:Nat))) (λ(i:Nat)(c:Nat)(out:List Nat)(hb3:HB [.s 23 (.nat .i64) (.n 34359738369),.s 7 (.nat .u64) (.n 1),.a 20 (.nat .u32) (.n 4294967295)] (i,c,out))(hI:SubI x y i c out)=>have hv8:=(show i<=34359738369 from hb3.1);have hv9:=(show c<=1 from hb3.2.1);have hv10:=(show∀u∈out,u<=4294967295 from hb3.2.2);have hIl:=hI.hl;have hIi:=hI.hi;have hIc:=hI.hc;have hg1:=qj x i;have hg2:=qj y i;Sp (i<(limbs x).length) (λh4=>I (?_:i<(limbs x).length) (Sp (i<(limbs y).length) (λh5=>I (?_:i<(limbs y).length) (I (zN (by first|omega|exact Nat.lt_succ_of_le (zz _ _)) (by omega):qK .sub .u64 (((limbs x).getD i 0:Nat):Int) ((c+((limbs y).getD i 0):Nat):Int) ((dif ((limbs x).getD i 0) (c+((limbs y).getD i 0)):Nat):Int)) (I (zz _ _:dif ((limbs x).getD i 0) (c+((limbs y).getD i 0))<=18446744073709551615) (I (?_:i<(limbs x).length) (I (?_:i<out.length) (I (show(i+1)<=34359738369 by omega:Bnd (.nat .i64) (.n 34359738369) (i+1)) (q6q (hI.step (by omega) (by first|rfl|rw[qS (l:=limbs y) (by omega),q7a]):SubI x y (i+1) ((dif ((limbs x).getD i 0) (c+((limbs y).getD i 0)))/2^63) (out.set i ((dif ((limbs x).getD i 0) (c+((limbs y).getD i 0)))%4294967296))) (?_:(limbs x).length-(i+1)<(limbs x).length-i)))))))) (λh6=>I (zN (by first|omega|exact Nat.lt_succ_of_le (zz _ _)) (by omega):qK .sub .u64 (((limbs x).getD i 0:Nat):Int) (c:Int) ((dif ((limbs x).getD i 0) c:Nat):Int)) (I (zz _ _:dif ((limbs x).getD i 0) c<=18446744073709551615) (I (?_:i<(limbs x).length) (I (?_:i<out.length) (I (show(i+1)<=34359738369 by omega:Bnd (.nat .i64) (.n 34359738369) (i+1)) (q6q (hI.step (by omega) (by first|rfl|rw[qS (l:=limbs y) (by omega),q7a]):SubI x y (i+1) ((dif ((limbs x).getD i 0) c)/2^63) (out.set i ((dif ((limbs x).getD i 0) c)%4294967296))) (?_:(limbs x).length-(i+1)<(limbs x).length-i))))))))) (λh7=>I (?_:(limbs x).length=out.length) (have hF:=hI.fin' (by omega) hp0;I (hF.2: ∀u∈out,u<4294967296) (q6q (hF.1:qe out=x-y) ((if_neg (by omega)).symm:0=subC x y))))))))⟩<;>omega)
abbrev q61:Ctr Tryz.prog:=FI.c q63
abbrev Xh:FI:=⟨195,[.mag,(.nat .u32)],[(.n 1099511627776),(.n 4294967295)],λz=>(λ(x:Nat)(u:Nat)=>[0<u]) z.1 z.2,λb z=>(λ(x:Nat)(u:Nat)=> .tup [.one (.dt .mag (b0 b) (x/u)),.one (.dt (.nat .u32) (b1 b) (x%u))]) z.1 z.2⟩
theorem Xi:Xh.OK Tryz.prog:=qB hmix 43 Tryz.func195 rfl rfl (by decide) [] (λ(x:Nat)(u:Nat) b hx hp=>qc (qa ((Bnds.h2 hx).1.magLe (q7b _ _)) rfl) (qc (qa ((Bnds.h2 hx).2.natLe (q7h (q7q _ (hp _ (q6W))))) rfl) qy)) (λ(x:Nat)(u:Nat) hx hp=>by
 have hx0:qJ x 1099511627776:=hx.1;have hl0:(limbs x).length<=34359738369:=qv (q7h hx0);have hx1:u<=4294967295:=hx.2;have hp0:0<u:=hp _ (q6W)
 refine⟨.h 1 2 (.mk (.arr (.nat .u32) (.n 4294967295))) (.loop [.s 8 (.int .i64) (.n 34359738370),.s 7 (.nat .u64) (.n 4294967295),.a 11 (.nat .u32) (.n 4294967295)] (λ((z,r,out):Int×Nat×List Nat)=>SmallZ x u z r out) (λ((z,r,out):Int×Nat×List Nat)=>(z+1).toNat) (λ((z,r,out):Int×Nat×List Nat)=> .cond (.h 6 4 (.ix z.toNat) (.h 6 7 (.i (.n ((r*2^32)+((limbs x).getD z.toNat 0)) 18446744073709551615)) (.h 7 7 (.ix z.toNat) (.nil)))) (.pre 9 (.frz 11 true [6,7]) (.h 9 1 (.c Ch) (.nil))))),kcast (by kernel_rfl) (I (?_:(limbs x).length=(limbs x).length) (I (SmallZ.start hp0:SmallZ x u ((((limbs x).length:Nat):Int) -1) 0 (List.replicate ((limbs x).length) (0:Nat))) (λ(z:Int)(r:Nat)(out:List Nat)(hb1:HB [.s 8 (.int .i64) (.n 34359738370),.s 7 (.nat .u64) (.n 4294967295),.a 11 (.nat .u32) (.n 4294967295)] (z,r,out))(hI:SmallZ x u z r out)=>have hv4:=(show Int.natAbs z<=34359738370 from hb1.1);have hv5:=(show r<=4294967295 from hb1.2.1);have hv6:=(show∀u∈out,u<=4294967295 from hb1.2.2);have hB:=hI.b;Sp (0<=z) (λh2=>I (?_:z=((z.toNat:Nat):Int)) (I (?_:z.toNat<(limbs x).length) (I (Cm _ 32 rfl (qj _ _) (by have:=qj x z.toNat;omega):qK .or .u64 ((r*2^32:Nat):Int) (((limbs x).getD z.toNat 0:Nat):Int) (((r*2^32)+((limbs x).getD z.toNat 0):Nat):Int)) (I (by have:=qj x z.toNat;omega:(r*2^32)+((limbs x).getD z.toNat 0)<=18446744073709551615) (I (?_:0<u) (I (?_:z=((z.toNat:Nat):Int)) (I (?_:z.toNat<(limbs x).length) (I (?_:z.toNat<out.length) (I (?_:0<u) (I (show Int.natAbs (z-1)<=34359738370 by omega:Bnd (.int .i64) (.n 34359738370) (z-1)) (q6q (hI.step (by omega) rfl:SmallZ x u (z-1) (((r*2^32)+((limbs x).getD z.toNat 0))%u) (out.set z.toNat ((((r*2^32)+((limbs x).getD z.toNat 0))/u)%4294967296))) (?_:((z-1)+1).toNat<(z+1).toNat)))))))))))) (λh3=>I (?_:(limbs x).length=out.length) (have hF:=hI.fin (by omega);I (hF.2.2: ∀u∈out,u<4294967296) (q6q (hF.1:qe out=x/u) (hF.2.1:r=x%u)))))))⟩<;>omega)
abbrev Xg:Ctr Tryz.prog:=FI.c Xi
abbrev W8:FI:=⟨191,[.mag],[(.n 1099511627776)],λz=>(λ(x:Nat)=>[(limbs x).length<=2]) z,λb z=>(λ(x:Nat)=> .c (.one (.dt (.nat .u64) (.n 18446744073709551615) x))) z⟩
theorem W9:W8.OK Tryz.prog:=qB hmix 21 Tryz.func191 rfl rfl (by decide) [] (λ(x:Nat) b hx hp=>qa (q7i (Kz (hp _ (q6W)))) rfl) (λ(x:Nat) hx hp=>by
 have hx0:qJ x 1099511627776:=hx;have hl0:(limbs x).length<=34359738369:=qv (q7h hx0);have hp0:(limbs x).length<=2:=hp _ (q6W)
 refine⟨.loop [.s 4 (.int .i64) (.n 68719476736),.s 3 (.nat .u64) (.n 18446744073709551615)] (λ((z,v):Int×Nat)=>WordZ x z v) (λ((z,v):Int×Nat)=>(z+1).toNat) (λ((z,v):Int×Nat)=> .cond (.h 5 1 (.i (.n (v*2^32) 18446744073709551615)) (.h 5 4 (.ix z.toNat) (.h 5 7 (.i (.n ((v*2^32)+((limbs x).getD z.toNat 0)) 18446744073709551615)) (.nil)))) (.nil)),kcast (by kernel_rfl) (I (WordZ.start x:WordZ x ((((limbs x).length:Nat):Int) -1) 0) (λ(z:Int)(v:Nat)(hb1:HB [.s 4 (.int .i64) (.n 68719476736),.s 3 (.nat .u64) (.n 18446744073709551615)] (z,v))(hI:WordZ x z v)=>have hv4:=(show Int.natAbs z<=68719476736 from hb1.1);have hv5:=(show v<=18446744073709551615 from hb1.2);have hB0:=hI.h0;have hB1:=hI.h1;Sp (0<=z) (λh2=>have hw:=hI.lt hp0 (by omega);I (Gr v 32 (by omega) (by omega):qK .shl .u64 (v:Int) 32 ((v*2^32:Nat):Int)) (I (?_:v*2^32<=18446744073709551615) (I (?_:z=((z.toNat:Nat):Int)) (I (?_:z.toNat<(limbs x).length) (I (Cm _ 32 rfl (qj _ _) (by have:=qj x z.toNat;omega):qK .or .u64 ((v*2^32:Nat):Int) (((limbs x).getD z.toNat 0:Nat):Int) (((v*2^32)+((limbs x).getD z.toNat 0):Nat):Int)) (I (by have:=qj x z.toNat;omega:(v*2^32)+((limbs x).getD z.toNat 0)<=18446744073709551615) (I (show Int.natAbs (z-1)<=68719476736 by omega:Bnd (.int .i64) (.n 68719476736) (z-1)) (q6q (hI.step (by omega):WordZ x (z-1) ((v*2^32)+((limbs x).getD z.toNat 0))) (?_:((z-1)+1).toNat<(z+1).toNat))))))))) (λh3=>(hI.fin (by omega):v=x))))⟩<;>omega)
abbrev W7:Ctr Tryz.prog:=FI.c W9
abbrev X1:FI:=⟨153,[.mag],[(.n 1099511627776)],λz=>(λ(x:Nat)=>[(limbs x).length<=2]) z,λb z=>(λ(x:Nat)=> .c (.one (.dt (.nat .u64) (.n 18446744073709551615) x))) z⟩
theorem X2:X1.OK Tryz.prog:=qB hmix 21 Tryz.func153 rfl rfl (by decide) [] (λ(x:Nat) b hx hp=>qa (q7i (Kz (hp _ (q6W)))) rfl) (λ(x:Nat) hx hp=>by
 have hx0:qJ x 1099511627776:=hx;have hl0:(limbs x).length<=34359738369:=qv (q7h hx0);have hp0:(limbs x).length<=2:=hp _ (q6W)
 refine⟨.loop [.s 4 (.int .i64) (.n 68719476736),.s 3 (.nat .u64) (.n 18446744073709551615)] (λ((z,v):Int×Nat)=>WordZ x z v) (λ((z,v):Int×Nat)=>(z+1).toNat) (λ((z,v):Int×Nat)=> .cond (.h 5 1 (.i (.n (v*2^32) 18446744073709551615)) (.h 5 4 (.ix z.toNat) (.h 5 7 (.i (.n ((v*2^32)+((limbs x).getD z.toNat 0)) 18446744073709551615)) (.nil)))) (.nil)),kcast (by kernel_rfl) (I (WordZ.start x:WordZ x ((((limbs x).length:Nat):Int) -1) 0) (λ(z:Int)(v:Nat)(hb1:HB [.s 4 (.int .i64) (.n 68719476736),.s 3 (.nat .u64) (.n 18446744073709551615)] (z,v))(hI:WordZ x z v)=>have hv4:=(show Int.natAbs z<=68719476736 from hb1.1);have hv5:=(show v<=18446744073709551615 from hb1.2);have hB0:=hI.h0;have hB1:=hI.h1;Sp (0<=z) (λh2=>have hw:=hI.lt hp0 (by omega);I (Gr v 32 (by omega) (by omega):qK .shl .u64 (v:Int) 32 ((v*2^32:Nat):Int)) (I (?_:v*2^32<=18446744073709551615) (I (?_:z=((z.toNat:Nat):Int)) (I (?_:z.toNat<(limbs x).length) (I (Cm _ 32 rfl (qj _ _) (by have:=qj x z.toNat;omega):qK .or .u64 ((v*2^32:Nat):Int) (((limbs x).getD z.toNat 0:Nat):Int) (((v*2^32)+((limbs x).getD z.toNat 0):Nat):Int)) (I (by have:=qj x z.toNat;omega:(v*2^32)+((limbs x).getD z.toNat 0)<=18446744073709551615) (I (show Int.natAbs (z-1)<=68719476736 by omega:Bnd (.int .i64) (.n 68719476736) (z-1)) (q6q (hI.step (by omega):WordZ x (z-1) ((v*2^32)+((limbs x).getD z.toNat 0))) (?_:((z-1)+1).toNat<(z+1).toNat))))))))) (λh3=>(hI.fin (by omega):v=x))))⟩<;>omega)
abbrev Mk:Ctr Tryz.prog:=FI.c X2
abbrev WH:FO:=⟨197,[.mag,(.nat .i64)],[(.n 1099511627776),(.n 32)],λ_=>[],λk b z=>(λ(x:Nat)(s:Nat)=> .c (.one (.gs k ((limbs x).length+1) 1 ((b0 b).nb/32+2)))) z.1 z.2,λb z=>(λ(x:Nat)(s:Nat)=> .gro (.nat .u32) (.n 4294967295) (padL (x*2^s) ((limbs x).length+1))) z.1 z.2⟩
theorem Mh:WH.OK Tryz.prog:=mkO hmix 41 12 Tryz.func197 rfl rfl (by decide) [] (λ_=>rfl) (λ_ _ _=>rfl) (λ_ _=>rfl) (λ_ _ _=>⟨rfl,rfl⟩) (λ(x:Nat)(s:Nat) k b hx hp=>⟨qa (Nat.succ_le_succ (M6 (Bnds.h2 hx).1)) rfl,KI _ _⟩) (λ(x:Nat)(s:Nat) hx hp=>by
 have hx0:qJ x 1099511627776:=hx.1;have hl0:(limbs x).length<=34359738369:=qv (q7h hx0);have hx1:s<=32:=hx.2
 refine bodyO.g (.h 1 3 (.mk (.gro (.nat .u32) (.n 4294967295))) (.loop [.s 15 (.nat .i64) (.n 34359738369),.s 6 (.nat .u64) (.n 4294967295),.bk 12 (.nat .u32) (.n 4294967295)] (λ((i,c,out):Nat×Nat×List Nat)=>RaiseI x s i c out) (λ((i,c,out):Nat×Nat×List Nat)=>(limbs x).length-i) (λ((i,c,out):Nat×Nat×List Nat)=> .cond (.h 6 4 (.i (.n (((limbs x).getD i 0)*2^s) 18446744073709551615)) (.h 6 5 (.i (.n (c+(((limbs x).getD i 0)*2^s)) 18446744073709551615)) (.nil))) (.nil)))) (kcast (by kernel_rfl) (I (?_:((limbs x).length)+1=((limbs x).length)+1) (I (RaiseI.start x s:RaiseI x s 0 0 (List.replicate (((limbs x).length)+1) (0:Nat))) (λ(i:Nat)(c:Nat)(out:List Nat)(hb1:HB [.s 15 (.nat .i64) (.n 34359738369),.s 6 (.nat .u64) (.n 4294967295),.bk 12 (.nat .u32) (.n 4294967295)] (i,c,out))(hI:RaiseI x s i c out)=>have hv4:=(show i<=34359738369 from hb1.1);have hv5:=(show c<=4294967295 from hb1.2.1);have hv6:=(show∀u∈out,u<=4294967295 from hb1.2.2);have hIl:=hI.hl;have hIi:=hI.hi;have hIc:=hI.hc;have hg1:=qj x i;have hbd:=IS hg1 hx1 hIc;Sp (i<(limbs x).length) (λh2=>I (?_:i<(limbs x).length) (I (Gr _ _ (by omega) (CK (by omega) (by omega)):qK .shl .u64 (((limbs x).getD i 0:Nat):Int) (s:Int) ((((limbs x).getD i 0)*2^s:Nat):Int)) (I (q7i (CK (by omega) (by omega)):((limbs x).getD i 0)*2^s<=18446744073709551615) (I (Gq _ _ rfl hIc hbd:qK .or .u64 (c:Int) ((((limbs x).getD i 0)*2^s:Nat):Int) ((c+(((limbs x).getD i 0)*2^s):Nat):Int)) (I (q7i hbd:c+(((limbs x).getD i 0)*2^s)<=18446744073709551615) (I (?_:i<((limbs x).length)+1) (I (?_:i<out.length) (I (show(i+1)<=34359738369 by omega:Bnd (.nat .i64) (.n 34359738369) (i+1)) (q6q (hI.step (by omega) rfl:RaiseI x s (i+1) ((c+(((limbs x).getD i 0)*2^s))/2^32) (out.set i ((c+(((limbs x).getD i 0)*2^s))%4294967296))) (?_:(limbs x).length-(i+1)<(limbs x).length-i)))))))))) (λh3=>I (?_:(limbs x).length<((limbs x).length)+1) (I (?_:(limbs x).length<out.length) (q6q (hI.fin' (by omega) (by omega):out.set ((limbs x).length) c=padL (x*2^s) ((limbs x).length+1)) ((?_:((limbs x).length)+1=(limbs x).length+1)))))))))<;>omega)
abbrev WG:CtrO Tryz.prog:=FO.c Mh
abbrev WF(k:Nat)(b:List Bd)(x:Nat)(s:Nat):WV:= .c (.one (.gs k ((limbs x).length+1) 1 ((b0 b).nb/32+2)))
abbrev WE(b:List Bd)(x:Nat)(s:Nat):WB:= .gro (.nat .u32) (.n 4294967295) (padL (x*2^s) ((limbs x).length+1))
theorem Pw(d:Nat)(x:Nat)(s:Nat)(hx:Bnds [.mag,(.nat .i64)] [(.n 1099511627776),(.n 32)] (x,s))(hp: ∀c0∈([]:List Prop),c0):vU Tryz.prog 197 (argsE [.mag,(.nat .i64)] (x,s)) [] (WF d [(.n 1099511627776),(.n 32)] x s).exp [(d,some (WE [(.n 1099511627776),(.n 32)] x s).exp)]:=Mh.sig d (x,s) hx hp
abbrev KN(b:List Bd)(x s:Nat):WV:= .c (.one (.dt (.sl (.nat .u32)) (.s ((b0 b).nb/32+2) (.n 4294967295)) (padL (x*2^s) ((limbs x).length+1))))
theorem Pv(b:List Bd)(x s:Nat)(hx:Bnds [.mag,.nat .i64] b (x,s))(hp: ∀p∈([]:List Prop),p):(KN b x s).ok:=qa ⟨by rw[Bh];exact Nat.succ_le_succ (M6 (Bnds.h2 hx).1),KI _ _⟩ rfl
def RP:Ctr Tryz.prog:=⟨197,[.mag,.nat .i64],[.n 1099511627776,.n 32],λz=>[],λb z=>KN b z.1 z.2,λz hx hp=>frzO (Pw 0 z.1 z.2 hx hp) (by decide) (Bh _ _).symm _,λ_ _=>rfl,λb z hx hp=>Pv b z.1 z.2 hx hp⟩
abbrev of_i:FI:=⟨161,[(.nat .u64)],[(.n 18446744073709551615)],λ_=>[],λb z=>(λ(x:Nat)=> .c (.one (.dt .mag (.n (Nat.log2 (b0 b).nb+1)) (x)))) z⟩
theorem of_k:of_i.OK Tryz.prog:=qB hmix 10 Tryz.func161 rfl rfl (by decide) [] (λ(x:Nat) b hx hp=>qa (q7l (Bnds.h1 hx).nat Nat.lt_log2_self) rfl) (λ(x:Nat) hx hp=>by
 have hx0:x<=18446744073709551615:=hx
 refine⟨.h 1 5 (.mk (.im (.nat .u32) (.n 4294967295))) (.h 1 6 (.c Ch) (.nil)),kcast (by kernel_rfl) (I (by intro u hu;simp only[q6U,q72,or_false]at hu;omega: ∀u∈[x%4294967296,x/2^32],u<4294967296) ((by simp only[qe];omega:qe [x%4294967296,x/2^32]=x)))⟩)
abbrev of_c:Ctr Tryz.prog:=FI.c of_k
abbrev Rm:FI:=⟨142,[(.sl (.nat .u32))],[(.s 1099511627776 (.n 4294967295))],λz=>(λ(ls:List Nat)=>[ls.length=0\/ls.getD (ls.length-1) 0≠0]) z,λb z=> .c (.one (.vl (.bool true)))⟩
theorem Rn:Rm.OK Tryz.prog:=qB hmix 15 Tryz.func142 rfl rfl (by decide) [] (λ(ls:List Nat) b hx hp=>AX rfl) (λ(ls:List Nat) hx hp=>by
 have hl0:ls.length<=1099511627776:=hx.1;have hp0:ls.length=0\/ls.getD (ls.length-1) 0≠0:=hp _ (q6W)
 refine⟨.cond (.nil) (.h 1 7 (.i .sub) (.nil)),kcast (by kernel_rfl) (Sp (ls.length=0) (λh1=>trivial) (λh2=>I (?_:1<=ls.length) (I (?_:ls.length-1<ls.length) ((?_:ls.getD (ls.length-1) 0≠0)))))⟩<;>omega)
abbrev Rl:Ctr Tryz.prog:=FI.c Rn
def tab8:ByteArray:=⟨#[0,1,2,2,3,3,3,3,4,4,4,4,4,4,4,4,5,5,5,5,5,5,5,5,5,5,5,5,5,5,5,5,6,6,6,6,6,6,6,6,6,6,6,6,6,6,6,6,6,6,6,6,6,6,6,6,6,6,6,6,6,6,6,6,7,7,7,7,7,7,7,7,7,7,7,7,7,7,7,7,7,7,7,7,7,7,7,7,7,7,7,7,7,7,7,7,7,7,7,7,7,7,7,7,7,7,7,7,7,7,7,7,7,7,7,7,7,7,7,7,7,7,7,7,7,7,7,7,8,8,8,8,8,8,8,8,8,8,8,8,8,8,8,8,8,8,8,8,8,8,8,8,8,8,8,8,8,8,8,8,8,8,8,8,8,8,8,8,8,8,8,8,8,8,8,8,8,8,8,8,8,8,8,8,8,8,8,8,8,8,8,8,8,8,8,8,8,8,8,8,8,8,8,8,8,8,8,8,8,8,8,8,8,8,8,8,8,8,8,8,8,8,8,8,8,8,8,8,8,8,8,8,8,8,8,8,8,8,8,8,8,8,8,8,8,8,8,8,8,8,8,8,8,8,8,8]⟩
abbrev UJ:FO:=⟨71,[(.sl (.nat .u32))],[(.s 1099511627776 (.n 4294967295))],λ_=>[],λk b z=>(λ(ls:List Nat)=> .c (.one (.gs k (ls.length) 1 ((b0 b).len)))) z,λb z=>(λ(ls:List Nat)=> .gro (.nat .u32) ((b0 b).e) (ls)) z⟩
theorem UK:UJ.OK Tryz.prog:=mkO hmix 8 7 Tryz.func71 rfl rfl (by decide) [] (λ_=>rfl) (λ_ _ _=>rfl) (λ_ _=>rfl) (λ_ _ _=>⟨rfl,rfl⟩) (λ(ls:List Nat) k b hx hp=>⟨qa (Bnds.h1 hx).sl.1 rfl,(Bnds.h1 hx).sl.2⟩) (λ(ls:List Nat) hx hp=>by
 have hl0:ls.length<=1099511627776:=hx.1
 refine bodyO.g (.cond (.nil) (.h 3 0 (.mk (.gro (.nat .u32) (.n 4294967295))) (.nil))) (kcast (by kernel_rfl) (q6q (λ(h1:ls=[])=>q6q (h1.symm:([]:List Nat)=ls) ((by rw[h1];rfl:0=ls.length))) (I (rfl:0=([]:List Nat).length) (q6q (rfl:([]:List Nat)++ls=ls) ((?_:0+ls.length=ls.length))))))<;>omega)
abbrev UI(k:Nat)(b:List Bd)(ls:List Nat):WV:= .c (.one (.gs k (ls.length) 1 ((b0 b).len)))
abbrev UH(b:List Bd)(ls:List Nat):WB:= .gro (.nat .u32) ((b0 b).e) (ls)
theorem Oa(d:Nat)(ls:List Nat)(hx:Bnds [(.sl (.nat .u32))] [(.s 1099511627776 (.n 4294967295))] ls)(hp: ∀c0∈([]:List Prop),c0):vU Tryz.prog 71 (argsE [(.sl (.nat .u32))] ls) [] (UI d [(.s 1099511627776 (.n 4294967295))] ls).exp [(d,some (UH [(.s 1099511627776 (.n 4294967295))] ls).exp)]:=UK.sig d ls hx hp
def C3:Ctr Tryz.prog:=⟨71,[.sl (.nat .u32)],[.s 1099511627776 (.n 4294967295)],λz=>[],λb z=> .c (.one (.dt (.sl (.nat .u32)) (b0 b) z)),λz hx hp=>frzO (Oa 0 z hx hp) (by decide) rfl _,λ_ _=>rfl,λb z hx hp=>qa (Bnds.h1 hx) rfl⟩
theorem MK(x:Nat)(hx:Bnds [.mag] [.n 1099511627776] x):Sig Tryz.prog 71 (argsE [.mag] x) (WV.c (.one (.dt .mag (.n 1099511627776) x))).exp:=by
 have h:=C3.sig (limbs x) ⟨q7k (qv (q7h hx)) (by decide),(Bnd.limbs hx).2⟩ (by intro p hp;cases hp);have e:(C3.res C3.bs (limbs x)).exp=(WV.c (.one (.dt .mag (.n 1099511627776) x))).exp:=magE x _ _;rw[e]at h;rw[E7];exact h
def Ds:Ctr Tryz.prog:=⟨71,[.mag],[.n 1099511627776],λz=>[],λb z=> .c (.one (.dt .mag (b0 b) z)),λz hx hp=>MK z hx,λ_ _=>rfl,λb z hx hp=>qa (Bnds.h1 hx) rfl⟩
abbrev Xu:FV:=⟨154,true,(.nat .u32),(.n 4294967295),1099511627776,[],[],λl lo n cap z=>[n=l.length],λk b l lo n cap z=> .c (.one (.gs k (limbs (qe l)).length 1 1099511627776)),λl lo n cap z=>l⟩
theorem Xv:Xu.OK Tryz.prog:=mkSl hmix 21 Tryz.func154 rfl rfl (by decide) [] (λ_=>rfl) (λ_ _ _ _ _=>rfl) (λ_ _ _ _ _ _ _=>rfl) (λ_ _ _ _ _ _=>rfl) (λ(l:List Nat)(lo n cap:Nat)  k b hx hs hn(hm:n<=1099511627776) hp=>⟨qa (q7k (I5 (Iq hs)) (by have:=hp _ (q6W);omega)) rfl,hs⟩) (λ(l:List Nat)(lo n cap:Nat)  hs hx hn(hm:n<=1099511627776) hp=>by
 have hp0:n=l.length:=hp _ (q6W);have hU:=Iq hs
 refine⟨.loop [.s 3 (.nat .i64) (.n 1099511627776)] (λ(k:Nat)=>k<=l.length/\qe (l.take k)=qe l) (λ(k:Nat)=>k) (λ(k:Nat)=> .cond (.h 2 5 (.i .sub) (.cond (.h 3 1 (.i .sub) (.nil)) (.nil))) (.nil)),kcast (by kernel_rfl) (I (⟨by omega,by rw[hp0,q74]⟩:n<=l.length/\qe (l.take n)=qe l) (λ(k:Nat)(hb1:HB [.s 3 (.nat .i64) (.n 1099511627776)] k)(hC:k<=l.length/\qe (l.take k)=qe l)=>have hv6:=(show k<=1099511627776 from hb1);have hk:=hC.1;Sp (0<k) (λh2=>I (?_:1<=k) (I (?_:k-1<n) (I (?_:k-1<l.length) (Sp (l.getD (k-1) 0=0) (λh3=>I (?_:1<=k) (q6q (⟨by omega,EF hC.1 (by omega) hC.2 (by omega)⟩:k-1<=l.length/\qe (l.take (k-1))=qe l) (?_:k-1<k))) (λh4=>I (?_:k<=n) (I (?_:n<=l.length) (q6q (Eq.refl l) ((by rw[<-wU hU hC.1 hC.2 (by omega),q6R,q7o hC.1]:k=(limbs (qe l)).length))))))))) (λh5=>I (?_:k<=n) (I (?_:n<=l.length) (q6q (Eq.refl l) ((by rw[<-wU hU hC.1 hC.2 (by omega),q6R,q7o hC.1]:k=(limbs (qe l)).length)))))))⟩<;>omega)
abbrev Xt:CtrS Tryz.prog:=FV.c Xv
theorem bl_8{x:Nat}(h:x<256):bl x<=8:=by
 have h1:=Gt x;rcases q7f x with e|e
 .subst e;decide
 .have h2:=EN (n:=x) (by omega)
  apply q7i;apply Nat.lt_of_not_le;intro h3;have:=q7B (show 0<2 by omega) (show 8<=bl x-1 by omega);omega
abbrev VR:FI:=⟨190,[(.nat .u32)],[(.n 4294967295)],λ_=>[],λb z=>(λ(x:Nat)=> .c (.one (.dt (.nat .i64) (.n (Nat.log2 (b0 b).nb+1)) (bl x)))) z⟩
theorem VS:VR.OK Tryz.prog:=qB hmix 19 Tryz.func190 rfl rfl (by decide) [] (λ(x:Nat) b hx hp=>qa (Yb (Bnds.h1 hx).nat) rfl) (λ(x:Nat) hx hp=>by
 have hx0:x<=4294967295:=hx;have h1:65536<=x->bl x=bl (x/2^16)+16:=λh=>C1 (k:=16) h
 have h2:256<=x/2^16->bl (x/2^16)=bl (x/2^16/2^8)+8:=λh=>C1 (k:=8) h
 have h3:256<=x->bl x=bl (x/2^8)+8:=λh=>C1 (k:=8) h
 refine⟨.cond (.cond (.h 7 2 (.i (.n (((x/2^16)/2^8)%256) 255)) (.h 7 3 (.any [.c (.one (.vl (.string tab8))),.c (.one (.dt (.nat .u8) (.n 255) (((x/2^16)/2^8)%256)))] (.c (.one (.dt (.nat .u8) (.n 8) (bl (((x/2^16)/2^8)%256))))) (qa (bl_8 (q7q _ (by decide))) rfl) (Op.index 9 (.const (.string tab8)) (.tmp 15)) (λ_=>F0 (j:=(((x/2^16)/2^8)%256)) (by kernel_rfl) rfl (q7q _ (by decide)) (by kernel_rfl))) (.nil))) (.h 7 2 (.i (.n ((x/2^16)%256) 255)) (.h 7 3 (.any [.c (.one (.vl (.string tab8))),.c (.one (.dt (.nat .u8) (.n 255) ((x/2^16)%256)))] (.c (.one (.dt (.nat .u8) (.n 8) (bl ((x/2^16)%256))))) (qa (bl_8 (q7q _ (by decide))) rfl) (Op.index 9 (.const (.string tab8)) (.tmp 15)) (λ_=>F0 (j:=((x/2^16)%256)) (by kernel_rfl) rfl (q7q _ (by decide)) (by kernel_rfl))) (.nil)))) (.cond (.h 7 2 (.i (.n ((x/2^8)%256) 255)) (.h 7 3 (.any [.c (.one (.vl (.string tab8))),.c (.one (.dt (.nat .u8) (.n 255) ((x/2^8)%256)))] (.c (.one (.dt (.nat .u8) (.n 8) (bl ((x/2^8)%256))))) (qa (bl_8 (q7q _ (by decide))) rfl) (Op.index 9 (.const (.string tab8)) (.tmp 15)) (λ_=>F0 (j:=((x/2^8)%256)) (by kernel_rfl) rfl (q7q _ (by decide)) (by kernel_rfl))) (.nil))) (.h 7 2 (.i (.n (x%256) 255)) (.h 7 3 (.any [.c (.one (.vl (.string tab8))),.c (.one (.dt (.nat .u8) (.n 255) (x%256)))] (.c (.one (.dt (.nat .u8) (.n 8) (bl (x%256))))) (qa (bl_8 (q7q _ (by decide))) rfl) (Op.index 9 (.const (.string tab8)) (.tmp 15)) (λ_=>F0 (j:=(x%256)) (by kernel_rfl) rfl (q7q _ (by decide)) (by kernel_rfl))) (.nil)))),kcast (by kernel_rfl) (Sp (65536<=x) (λh1=>Sp (256<=x/2^16) (λh2=>I (H3 _:IntKind.wrap .u8 (((x/2^16)/2^8:Nat):Int)=((((x/2^16)/2^8)%256:Nat):Int)) (I (?_:((x/2^16)/2^8)%256<=255) (I (rfl:([.c (.one (.vl (.string tab8))),.c (.one (.dt (.nat .u8) (.n 255) (((x/2^16)/2^8)%256)))]:List WV)=[.c (.one (.vl (.string tab8))),.c (.one (.dt (.nat .u8) (.n 255) (((x/2^16)/2^8)%256)))]) (I (rfl:(Op.index 9 (.const (.string tab8)) (.tmp 15):Op)=Op.index 9 (.const (.string tab8)) (.tmp 15)) ((by rw[q7p (show((x/2^16)/2^8)<256 by omega)];omega:24+(bl (((x/2^16)/2^8)%256))=bl x)))))) (λh3=>I (H3 _:IntKind.wrap .u8 ((x/2^16:Nat):Int)=(((x/2^16)%256:Nat):Int)) (I (?_:(x/2^16)%256<=255) (I (rfl:([.c (.one (.vl (.string tab8))),.c (.one (.dt (.nat .u8) (.n 255) ((x/2^16)%256)))]:List WV)=[.c (.one (.vl (.string tab8))),.c (.one (.dt (.nat .u8) (.n 255) ((x/2^16)%256)))]) (I (rfl:(Op.index 9 (.const (.string tab8)) (.tmp 15):Op)=Op.index 9 (.const (.string tab8)) (.tmp 15)) ((by rw[q7p (show(x/2^16)<256 by omega)];omega:16+(bl ((x/2^16)%256))=bl x))))))) (λh4=>Sp (256<=x) (λh5=>I (H3 _:IntKind.wrap .u8 ((x/2^8:Nat):Int)=(((x/2^8)%256:Nat):Int)) (I (?_:(x/2^8)%256<=255) (I (rfl:([.c (.one (.vl (.string tab8))),.c (.one (.dt (.nat .u8) (.n 255) ((x/2^8)%256)))]:List WV)=[.c (.one (.vl (.string tab8))),.c (.one (.dt (.nat .u8) (.n 255) ((x/2^8)%256)))]) (I (rfl:(Op.index 9 (.const (.string tab8)) (.tmp 15):Op)=Op.index 9 (.const (.string tab8)) (.tmp 15)) ((by rw[q7p (show(x/2^8)<256 by omega)];omega:8+(bl ((x/2^8)%256))=bl x)))))) (λh6=>I (H3 _:IntKind.wrap .u8 (x:Int)=((x%256:Nat):Int)) (I (?_:x%256<=255) (I (rfl:([.c (.one (.vl (.string tab8))),.c (.one (.dt (.nat .u8) (.n 255) (x%256)))]:List WV)=[.c (.one (.vl (.string tab8))),.c (.one (.dt (.nat .u8) (.n 255) (x%256)))]) (I (rfl:(Op.index 9 (.const (.string tab8)) (.tmp 15):Op)=Op.index 9 (.const (.string tab8)) (.tmp 15)) ((by rw[q7p (show x<256 by omega)];omega:0+(bl (x%256))=bl x))))))))⟩<;>omega)
abbrev M5:Ctr Tryz.prog:=FI.c VS
abbrev q1k:FI:=⟨196,[(.nat .u32)],[(.n 4294967295)],λ_=>[],λb z=>(λ(x:Nat)=> .c (.one (.dt (.nat .i64) (.n 32) (32-bl x)))) z⟩
theorem q1l:q1k.OK Tryz.prog:=qB hmix 6 Tryz.func196 rfl rfl (by decide) [(190,.c M5)] (λ(x:Nat) b hx hp=>qa (Nat.sub_le _ _) rfl) (λ(x:Nat) hx hp=>by
 have hx0:x<=4294967295:=hx;have hb:= @MI x
 refine⟨.h 1 2 (.i .sub) (.nil),kcast (by kernel_rfl) (I (?_:bl x<=32) ((?_:32-(bl x)=32-bl x)))⟩<;>omega)
abbrev q1j:Ctr Tryz.prog:=FI.c q1l
abbrev Y9:FI:=⟨143,[.mag],[(.n 1099511627776)],λ_=>[],λb z=>(λ(x:Nat)=> .c (.one (.dt (.nat .i64) (b0 b) (bl x)))) z⟩
theorem Ya:Y9.OK Tryz.prog:=qB hmix 20 Tryz.func143 rfl rfl (by decide) [(154,.c BU),(190,.c M5)] (λ(x:Nat) b hx hp=>qa (NS (Bnds.h1 hx)) rfl) (λ(x:Nat) hx hp=>by
 have hx0:qJ x 1099511627776:=hx;have hl0:(limbs x).length<=34359738369:=qv (q7h hx0)
 refine⟨.cond (.nil) (.h 4 2 (.i .sub) (.h 4 7 (.i .sub) (.nil))),kcast (by kernel_rfl) (Sp ((limbs x).length=0) (λh1=>(by have:=(nl0 (x:=x)).1 (by omega);subst this;rfl:0=bl x)) (λh2=>have hpos:=(show 0<(limbs x).length by omega);have hBB:=HN hpos;I (?_:1<=(limbs x).length) (I (?_:1<=(limbs x).length) (I (?_:((limbs x).length) -1<(limbs x).length) ((?_:(32*(((limbs x).length) -1))+(bl ((limbs x).getD (((limbs x).length) -1) 0))=bl x))))))⟩<;>omega)
abbrev Gs:Ctr Tryz.prog:=FI.c Ya
abbrev q4x:FI:=⟨157,[.mag,.mag],[(.n 1099511627776),(.n 1099511627776)],λz=>(λ(x:Nat)(y:Nat)=>[0<y]) z.1 z.2,λb z=>(λ(x:Nat)(y:Nat)=> .tup [.one (.dt .mag (b0 b) (x/y)),.one (.dt .mag (b1 b) (x%y)),.one (.kn .i64 0)]) z.1 z.2⟩
theorem q4y:q4x.OK Tryz.prog:=qB hmix 300 Tryz.func157 rfl rfl (by decide) [(71,.c Ds),(91,.c ML),(154,.c Ch),(195,.c Xg),(196,.c q1j),(197,.c RP)] (λ(x:Nat)(y:Nat) b hx hp=>qc (qa ((Bnds.h2 hx).1.magLe (q7b _ _)) rfl) (qc (qa ((Bnds.h2 hx).2.magLe (q7h (q7q _ (hp _ (q6W))))) rfl) (qc AQ qy))) (λ(x:Nat)(y:Nat) hx hp=>by
 have hx0:qJ x 1099511627776:=hx.1;have hl0:(limbs x).length<=34359738369:=qv (q7h hx0);have hx1:qJ y 1099511627776:=hx.2;have hl1:(limbs y).length<=34359738369:=qv (q7h hx1);have hp0:0<y:=hp _ (q6W);have hyp:=mt (nl0 (x:=y)).1 (show¬y=0 by omega)
 refine⟨.h 1 1 (.c BU) (.h 1 3 (.c BU) (.cond (.dead) (.cond (.nil) (.cond (.h 8 2 (.mk (.im (.nat .u32) (.n 4294967295))) (.nil)) (.h 9 3 (.i .sub) ((λ(s:Nat)=> .h 10 2 (.o WG) (.h 10 6 (.mag (y*2^s) 1099511627808) ((λ(m:Nat)=> .h 12 3 (.i .sub) (.h 12 4 (.mk (.arr (.nat .u32) (.n 4294967295))) (.loop [.s 13 (.int .i64) (.n 1099511627776),.bk 66 (.nat .u32) (.n 4294967295),.a 77 (.nat .u32) (.n 4294967295)] (λ((z,out,ql):Int×List Nat×List Nat)=>DivZ x y s z out ql) (λ((z,out,ql):Int×List Nat×List Nat)=>(z+1).toNat) (λ((z,out,ql):Int×List Nat×List Nat)=> .cond ((λ(j:Nat)=> .h 16 4 (.ix (j+m)) (.h 16 13 (.ix (j+m-1)) (.h 16 16 (.i (.n (((out.getD (j+m) 0)*2^32)+(out.getD (j+m-1) 0)) 18446744073709551615)) ((λ(t:Nat)=> .h 17 3 (.i .sub) (.h 17 11 (.i .sub) (.loop [.s 15 (.nat .u64) (.n 4294967297),.s 16 (.nat .u64) (.n 4294967295)] (λ((q,r):Nat×Nat)=>Est x y s j out q r) (λ((q,r):Nat×Nat)=>q) (λ((q,r):Nat×Nat)=> .cond (.h 19 1 (.i .sub) (.h 20 3 (.i .sub) (.cond (.loop [.s 156 (.nat .i64) (.n 137438953472),.s 17 (.nat .u64) (.n 1),.s 18 (.nat .u64) (.n 4294967295),.bk 66 (.nat .u32) (.n 4294967295)] (λ((i2,b,k,ls2):Nat×Nat×Nat×List Nat)=>MsI y s j (q-1) out i2 k b ls2) (λ((i2,b,k,ls2):Nat×Nat×Nat×List Nat)=>(limbs (y*2^s)).length-i2) (λ((i2,b,k,ls2):Nat×Nat×Nat×List Nat)=> .cond (.h 26 5 (.i (.n (k+((q-1)*((limbs (y*2^s)).getD i2 0))) 18446744073709551615)) (.h 27 4 (.ix (i2+j)) (.h 27 8 (.i (.n ((k+((q-1)*((limbs (y*2^s)).getD i2 0)))%4294967296) 4294967295)) (.h 27 9 (.i (.n (dif (ls2.getD (i2+j) 0) ((k+((q-1)*((limbs (y*2^s)).getD i2 0)))%4294967296)) 18446744073709551615)) (.h 27 11 (.i (.n (dif (dif (ls2.getD (i2+j) 0) ((k+((q-1)*((limbs (y*2^s)).getD i2 0)))%4294967296)) b) 18446744073709551615)) (.h 28 6 (.ix (i2+j)) (.nil))))))) (.h 32 4 (.ix (j+m)) (.h 32 8 (.i (.n (dif (ls2.getD (j+m) 0) k) 18446744073709551615)) (.h 32 10 (.i (.n (dif (dif (ls2.getD (j+m) 0) k) b) 18446744073709551615)) ((λ(d:Nat)=> .h 33 6 (.ix (j+m)) (.cond (.h 35 1 (.i .sub) (.loop [.s 216 (.nat .i64) (.n 137438953472),.s 18 (.nat .u64) (.n 1),.bk 66 (.nat .u32) (.n 4294967295)] (λ((i3,c3,ls3):Nat×Nat×List Nat)=>AbI y s j (ls2.set (j+m) (d%4294967296)) i3 c3 ls3) (λ((i3,c3,ls3):Nat×Nat×List Nat)=>(limbs (y*2^s)).length-i3) (λ((i3,c3,ls3):Nat×Nat×List Nat)=> .cond (.h 40 5 (.ix (i3+j)) (.h 41 6 (.ix (i3+j)) (.nil))) (.h 44 4 (.ix (j+m)) (.h 44 8 (.i (.n (((ls3.getD (j+m) 0)+c3)%4294967296) 4294967295)) (.h 44 9 (.ix (j+m)) (.h 45 4 (.ix j) (.nil)))))))) (.h 45 4 (.ix j) (.nil)))) (dif (dif (ls2.getD (j+m) 0) k) b))))))) (.nil)))) (.h 18 6 (.i .sub) (.h 18 18 (.ix (j+m-2)) (.h 18 21 (.i (.n ((r*2^32)+(out.getD (j+m-2) 0)) 18446744073709551615)) (.cond (.h 19 1 (.i .sub) (.h 20 3 (.i .sub) (.cond (.loop [.s 156 (.nat .i64) (.n 137438953472),.s 17 (.nat .u64) (.n 1),.s 18 (.nat .u64) (.n 4294967295),.bk 66 (.nat .u32) (.n 4294967295)] (λ((i2,b,k,ls2):Nat×Nat×Nat×List Nat)=>MsI y s j (q-1) out i2 k b ls2) (λ((i2,b,k,ls2):Nat×Nat×Nat×List Nat)=>(limbs (y*2^s)).length-i2) (λ((i2,b,k,ls2):Nat×Nat×Nat×List Nat)=> .cond (.h 26 5 (.i (.n (k+((q-1)*((limbs (y*2^s)).getD i2 0))) 18446744073709551615)) (.h 27 4 (.ix (i2+j)) (.h 27 8 (.i (.n ((k+((q-1)*((limbs (y*2^s)).getD i2 0)))%4294967296) 4294967295)) (.h 27 9 (.i (.n (dif (ls2.getD (i2+j) 0) ((k+((q-1)*((limbs (y*2^s)).getD i2 0)))%4294967296)) 18446744073709551615)) (.h 27 11 (.i (.n (dif (dif (ls2.getD (i2+j) 0) ((k+((q-1)*((limbs (y*2^s)).getD i2 0)))%4294967296)) b) 18446744073709551615)) (.h 28 6 (.ix (i2+j)) (.nil))))))) (.h 32 4 (.ix (j+m)) (.h 32 8 (.i (.n (dif (ls2.getD (j+m) 0) k) 18446744073709551615)) (.h 32 10 (.i (.n (dif (dif (ls2.getD (j+m) 0) k) b) 18446744073709551615)) ((λ(d:Nat)=> .h 33 6 (.ix (j+m)) (.cond (.h 35 1 (.i .sub) (.loop [.s 216 (.nat .i64) (.n 137438953472),.s 18 (.nat .u64) (.n 1),.bk 66 (.nat .u32) (.n 4294967295)] (λ((i3,c3,ls3):Nat×Nat×List Nat)=>AbI y s j (ls2.set (j+m) (d%4294967296)) i3 c3 ls3) (λ((i3,c3,ls3):Nat×Nat×List Nat)=>(limbs (y*2^s)).length-i3) (λ((i3,c3,ls3):Nat×Nat×List Nat)=> .cond (.h 40 5 (.ix (i3+j)) (.h 41 6 (.ix (i3+j)) (.nil))) (.h 44 4 (.ix (j+m)) (.h 44 8 (.i (.n (((ls3.getD (j+m) 0)+c3)%4294967296) 4294967295)) (.h 44 9 (.ix (j+m)) (.h 45 4 (.ix j) (.nil)))))))) (.h 45 4 (.ix j) (.nil)))) (dif (dif (ls2.getD (j+m) 0) k) b))))))) (.nil)))) (.loop [.s 156 (.nat .i64) (.n 137438953472),.s 17 (.nat .u64) (.n 1),.s 18 (.nat .u64) (.n 4294967295),.bk 66 (.nat .u32) (.n 4294967295)] (λ((i2,b,k,ls2):Nat×Nat×Nat×List Nat)=>MsI y s j q out i2 k b ls2) (λ((i2,b,k,ls2):Nat×Nat×Nat×List Nat)=>(limbs (y*2^s)).length-i2) (λ((i2,b,k,ls2):Nat×Nat×Nat×List Nat)=> .cond (.h 26 5 (.i (.n (k+(q*((limbs (y*2^s)).getD i2 0))) 18446744073709551615)) (.h 27 4 (.ix (i2+j)) (.h 27 8 (.i (.n ((k+(q*((limbs (y*2^s)).getD i2 0)))%4294967296) 4294967295)) (.h 27 9 (.i (.n (dif (ls2.getD (i2+j) 0) ((k+(q*((limbs (y*2^s)).getD i2 0)))%4294967296)) 18446744073709551615)) (.h 27 11 (.i (.n (dif (dif (ls2.getD (i2+j) 0) ((k+(q*((limbs (y*2^s)).getD i2 0)))%4294967296)) b) 18446744073709551615)) (.h 28 6 (.ix (i2+j)) (.nil))))))) (.h 32 4 (.ix (j+m)) (.h 32 8 (.i (.n (dif (ls2.getD (j+m) 0) k) 18446744073709551615)) (.h 32 10 (.i (.n (dif (dif (ls2.getD (j+m) 0) k) b) 18446744073709551615)) ((λ(d:Nat)=> .h 33 6 (.ix (j+m)) (.cond (.h 35 1 (.i .sub) (.loop [.s 216 (.nat .i64) (.n 137438953472),.s 18 (.nat .u64) (.n 1),.bk 66 (.nat .u32) (.n 4294967295)] (λ((i3,c3,ls3):Nat×Nat×List Nat)=>AbI y s j (ls2.set (j+m) (d%4294967296)) i3 c3 ls3) (λ((i3,c3,ls3):Nat×Nat×List Nat)=>(limbs (y*2^s)).length-i3) (λ((i3,c3,ls3):Nat×Nat×List Nat)=> .cond (.h 40 5 (.ix (i3+j)) (.h 41 6 (.ix (i3+j)) (.nil))) (.h 44 4 (.ix (j+m)) (.h 44 8 (.i (.n (((ls3.getD (j+m) 0)+c3)%4294967296) 4294967295)) (.h 44 9 (.ix (j+m)) (.h 45 4 (.ix j) (.nil)))))))) (.h 45 4 (.ix j) (.nil)))) (dif (dif (ls2.getD (j+m) 0) k) b))))))))))))))) (((out.getD (j+m) 0)*2^32)+(out.getD (j+m-1) 0)))))) z.toNat) (.h 46 1 (.s Xt) (.loop [.s 262 (.nat .i64) (.n 1099511627776),.bk 66 (.nat .u32) (.n 4294967295)] (λ((i4,ls4):Nat×List Nat)=>DownI (qe out) s ((limbs x).length+1) i4 ls4) (λ((i4,ls4):Nat×List Nat)=>(limbs (qe out)).length-i4) (λ((i4,ls4):Nat×List Nat)=> .cond (.h 50 5 (.i (.n ((ls4.getD i4 0)/2^s) 4294967295)) (.cond (.cond (.h 52 10 (.i .sub) (.h 52 11 (.i (.n (((ls4.set i4 ((ls4.getD i4 0)/2^s)).getD (i4+1) 0)*2^(32-s)%4294967296) 4294967295)) (.h 52 12 (.i (.n (((ls4.set i4 ((ls4.getD i4 0)/2^s)).getD i4 0)+(((ls4.set i4 ((ls4.getD i4 0)/2^s)).getD (i4+1) 0)*2^(32-s)%4294967296)) 4294967295)) (.nil)))) (.nil)) (.nil))) (.pre 54 (.frz 77 true [4,5,66]) (.pre 54 (.frz 66 false [4,5]) (.nil)))))))))) ((limbs (y*2^s)).length)))) (32-bl ((limbs y).getD (((limbs y).length) -1) 0)))))))),kcast (by kernel_rfl) (q6q (λ(h1:(limbs y).length=0)=>(absurd (nl0.1 h1) (by omega):False)) (λ(h2: ¬((limbs y).length=0))=>q6q (λ(h3:qZ x y<0)=>q6q ((Nat.div_eq_of_lt (vw.1 (by omega))).symm:0=x/y) ((q7p (vw.1 (by omega))).symm:x=x%y)) (λ(h4: ¬(qZ x y<0))=>q6q (λ(h5:(limbs y).length=1)=>have hyx:=(show y<=x from by have:=mt vw.2 (show¬qZ x y<0 by omega);omega);have hl1:=(show(limbs y).length=1 by omega);have hg0:=qj y 0;have hy1:=(show(limbs y).getD 0 0=y from by have:=wu (x:=y) (by omega);rw[hl1]at this;simpa[qe]using this.symm);I (by omega:0<(limbs y).length) (I (by omega:0<(limbs y).getD 0 0) (I (by intro u hu;simp only[q6U,q72,or_false]at hu;subst hu;have:=q7q x (show 0<(limbs y).getD 0 0 by omega);omega: ∀u∈[x%((limbs y).getD 0 0)],u<4294967296) (q6q (by rw[hy1]:x/((limbs y).getD 0 0)=x/y) (by rw[hy1];rfl:qe [x%((limbs y).getD 0 0)]=x%y))))) (λ(h6: ¬((limbs y).length=1))=>have hyx:=(show y<=x from by have:=mt vw.2 (show¬qZ x y<0 by omega);omega);have hg0:=qj y ((limbs y).length-1);have hsd:= @MI _ hg0;have hC0:=DivC.mk' (x:=x) (y:=y) (by omega) hyx;I (by omega:1<=(limbs y).length) (I (by omega:((limbs y).length) -1<(limbs y).length) ((λ(s:Nat)(hs:s=32-bl ((limbs y).getD (((limbs y).length) -1) 0))=>have hC:=(show DivC x y s from by subst hs;exact hC0);have hss:=hC.hs;have hV:=hC.hV;have hC2:=hC.h2;have hCx:=hC.hyx;I (Ff _ _: ∀u∈padL (y*2^s) ((limbs y).length+1),u<4294967296) (I (Et y s (by omega):qe (padL (y*2^s) ((limbs y).length+1))=y*2^s) (I (P5 hx1 (by omega):qJ (y*2^s) 1099511627808) ((λ(m:Nat)(hm:m=(limbs y).length)=>have hDt:=(show 2147483648<=(limbs (y*2^s)).getD (m-1) 0 from by subst hm;exact hC.ht);I (by omega:m<=(limbs x).length+1) (I (by omega:((limbs x).length+1) -m=((limbs x).length+1) -m) (I (DivZ.start hC (by omega):DivZ x y s (((((limbs x).length+1) -m:Nat):Int) -1) (padL (x*2^s) ((limbs x).length+1)) (List.replicate (((limbs x).length+1) -m) (0:Nat))) (λ(z:Int)(out:List Nat)(ql:List Nat)(hb7:HB [.s 13 (.int .i64) (.n 1099511627776),.bk 66 (.nat .u32) (.n 4294967295),.a 77 (.nat .u32) (.n 4294967295)] (z,out,ql))(hD:DivZ x y s z out ql)=>have hv75:=(show Int.natAbs z<=1099511627776 from hb7.1);have hv76:=(show∀u∈out,u<=4294967295 from hb7.2.1);have hv77:=(show∀u∈ql,u<=4294967295 from hb7.2.2);have hDb:=hD.b;have hg:=(z7 (by omega) hD.h.hu: ∀k,out.getD k 0<4294967296);q6q (λ(h8:0<=z)=>(λ(j:Nat)(hj:j=z.toNat)=>have hz0:=(show 0<=z by omega);have hD1:=hD.at hz0 hj;have hga:=hg (j+m);have hgb:=hg (j+m-1);have hgc:=hg (j+m-2);have hva:=qj (y*2^s) (m-1);have hvb:=qj (y*2^s) (m-2);I (by omega:z+(m:Int)=((j+m:Nat):Int)) (I (by omega:j+m<(limbs x).length+1) (I (by omega:j+m<out.length) (I (by omega:(z+(m:Int)) -1=((j+m-1:Nat):Int)) (I (by omega:j+m-1<(limbs x).length+1) (I (by omega:j+m-1<out.length) (I (Cm _ 32 rfl (by omega) (by omega):qK .or .u64 (((out.getD (j+m) 0)*2^32:Nat):Int) ((out.getD (j+m-1) 0:Nat):Int) ((((out.getD (j+m) 0)*2^32)+(out.getD (j+m-1) 0):Nat):Int)) (I (by omega:((out.getD (j+m) 0)*2^32)+(out.getD (j+m-1) 0)<=18446744073709551615) ((λ(t:Nat)(ht:t=((out.getD (j+m) 0)*2^32)+(out.getD (j+m-1) 0))=>I (by omega:1<=m) (I (by omega:m-1<(limbs (y*2^s)).length) (I (by omega:0<(limbs (y*2^s)).getD (m-1) 0) (I (by omega:1<=m) (I (by omega:m-1<(limbs (y*2^s)).length) (I (by omega:0<(limbs (y*2^s)).getD (m-1) 0) (I (by subst hm;have hE0:=Est.start hC hD1 ht;first|exact hE0.hq|exact q7i hE0.hr:Bnd (.nat .u64) (.n 4294967297) (t/((limbs (y*2^s)).getD (m-1) 0))) (I (by subst hm;exact Est.start hC hD1 ht:Est x y s j out (t/((limbs (y*2^s)).getD (m-1) 0)) (t%((limbs (y*2^s)).getD (m-1) 0))) (λ(q:Nat)(r:Nat)(hb9:HB [.s 15 (.nat .u64) (.n 4294967297),.s 16 (.nat .u64) (.n 4294967295)] (q,r))(hE:Est x y s j out q r)=>have hv63:=(show q<=4294967297 from hb9.1);have hv64:=(show r<=4294967295 from hb9.2);have hEq:=hE.hq;have hEr:=hE.hr;q6q (λ(h10:4294967296<=q)=>have hTest:=(show 4294967296<=q\/r*4294967296+out.getD (j+m-2) 0<q*(limbs (y*2^s)).getD (m-2) 0 from by first|exact .inl (by omega)|exact .inr (by omega));have hq1:=(show 1<=q from by subst hm;exact(hE.less hC hD1 hTest).2);I (by omega:1<=q) (I (by omega:1<=m) (I (by omega:m-1<(limbs (y*2^s)).length) (q6q (λ(h11:4294967296<=r+((limbs (y*2^s)).getD (m-1) 0))=>have hG:=(show Dig x y s j out (q-1)from by subst hm;first|exact hE.brk hC hD1 hTest (by omega)|exact hE.fin hC hD1 (by omega) (by omega));I (MsI.start hD1.hu:MsI y s j (q-1) out 0 0 0 out) (λ(i2:Nat)(b:Nat)(k:Nat)(ls2:List Nat)(hb12:HB [.s 156 (.nat .i64) (.n 137438953472),.s 17 (.nat .u64) (.n 1),.s 18 (.nat .u64) (.n 4294967295),.bk 66 (.nat .u32) (.n 4294967295)] (i2,b,k,ls2))(hM:MsI y s j (q-1) out i2 k b ls2)=>have hv23:=(show i2<=137438953472 from hb12.1);have hv24:=(show b<=1 from hb12.2.1);have hv25:=(show k<=4294967295 from hb12.2.2.1);have hv26:=(show∀u∈ls2,u<=4294967295 from hb12.2.2.2);have hMl:=hM.hl;have hMi:=hM.hi;have hMk:=hM.hk;have hMb:=hM.hb;have hGq:=hG.hq;have hmg:=(z7 (by omega) hM.hu: ∀k,ls2.getD k 0<4294967296);have hmg0:=hmg (i2+j);have hmt:=hmg (j+m);have hmv:=qj (y*2^s) i2;have hmm:=(q7v (by omega) (by omega):(q-1)*(limbs (y*2^s)).getD i2 0<=4294967295*4294967295);q6q (λ(h13:i2<(limbs (y*2^s)).length)=>I (by omega:i2<(limbs (y*2^s)).length) (I (JH (by omega):qK .add .u64 (k:Int) (((q-1)*((limbs (y*2^s)).getD i2 0):Nat):Int) ((k+((q-1)*((limbs (y*2^s)).getD i2 0)):Nat):Int)) (I (by omega:k+((q-1)*((limbs (y*2^s)).getD i2 0))<=18446744073709551615) (I (by omega:(i2:Int)+z=((i2+j:Nat):Int)) (I (by omega:i2+j<(limbs x).length+1) (I (by omega:i2+j<ls2.length) (I (JJ (by omega):qK .and .u64 ((k+((q-1)*((limbs (y*2^s)).getD i2 0)):Nat):Int) 4294967295 (((k+((q-1)*((limbs (y*2^s)).getD i2 0)))%4294967296:Nat):Int)) (I (by omega:(k+((q-1)*((limbs (y*2^s)).getD i2 0)))%4294967296<=4294967295) (I (zN (by first|omega|exact w5) (by omega):qK .sub .u64 ((ls2.getD (i2+j) 0:Nat):Int) (((k+((q-1)*((limbs (y*2^s)).getD i2 0)))%4294967296:Nat):Int) ((dif (ls2.getD (i2+j) 0) ((k+((q-1)*((limbs (y*2^s)).getD i2 0)))%4294967296):Nat):Int)) (I (zz _ _:dif (ls2.getD (i2+j) 0) ((k+((q-1)*((limbs (y*2^s)).getD i2 0)))%4294967296)<=18446744073709551615) (I (zN (by first|omega|exact w5) (by omega):qK .sub .u64 ((dif (ls2.getD (i2+j) 0) ((k+((q-1)*((limbs (y*2^s)).getD i2 0)))%4294967296):Nat):Int) (b:Int) ((dif (dif (ls2.getD (i2+j) 0) ((k+((q-1)*((limbs (y*2^s)).getD i2 0)))%4294967296)) b:Nat):Int)) (I (zz _ _:dif (dif (ls2.getD (i2+j) 0) ((k+((q-1)*((limbs (y*2^s)).getD i2 0)))%4294967296)) b<=18446744073709551615) (I (by omega:(i2:Int)+z=((i2+j:Nat):Int)) (I (by omega:i2+j<(limbs x).length+1) (I (by omega:i2+j<ls2.length) (I (show(i2+1)<=137438953472 by omega:Bnd (.nat .i64) (.n 137438953472) (i2+1)) (q6q ((hM.step (by omega) (by omega) hG.hq rfl rfl).1:MsI y s j (q-1) out (i2+1) ((k+((q-1)*((limbs (y*2^s)).getD i2 0)))/2^32) ((dif (dif (ls2.getD (i2+j) 0) ((k+((q-1)*((limbs (y*2^s)).getD i2 0)))%4294967296)) b)/2^63) (ls2.set (i2+j) ((dif (dif (ls2.getD (i2+j) 0) ((k+((q-1)*((limbs (y*2^s)).getD i2 0)))%4294967296)) b)%4294967296))) (by omega:(limbs (y*2^s)).length-(i2+1)<(limbs (y*2^s)).length-i2)))))))))))))))))) (λ(h14: ¬(i2<(limbs (y*2^s)).length))=>have hM1:=(show i2=m by omega)▸hM;I (by omega:z+(m:Int)=((j+m:Nat):Int)) (I (by omega:j+m<(limbs x).length+1) (I (by omega:j+m<ls2.length) (I (zN (by first|omega|exact w5) (by omega):qK .sub .u64 ((ls2.getD (j+m) 0:Nat):Int) (k:Int) ((dif (ls2.getD (j+m) 0) k:Nat):Int)) (I (zz _ _:dif (ls2.getD (j+m) 0) k<=18446744073709551615) (I (zN (by first|omega|exact w5) (by omega):qK .sub .u64 ((dif (ls2.getD (j+m) 0) k:Nat):Int) (b:Int) ((dif (dif (ls2.getD (j+m) 0) k) b:Nat):Int)) (I (zz _ _:dif (dif (ls2.getD (j+m) 0) k) b<=18446744073709551615) ((λ(d:Nat)(hd:d=dif (dif (ls2.getD (j+m) 0) k) b)=>I (by omega:z+(m:Int)=((j+m:Nat):Int)) (I (by omega:j+m<(limbs x).length+1) (I (by omega:j+m<ls2.length) (have hT:=MsI.top hM1 (by omega) (by omega) hd;have hT1:=hT.1;have hT2:=hT.2.1;have hT3:=hT.2.2.1;have hT4:=hT.2.2.2.1;have hT5:=hT.2.2.2.2;q6q (λ(h15:d/2^63≠0)=>have hd1:=(show d/9223372036854775808=1 by omega);have hT1:=(show _ from by rw[hd1]at hT1;exact hT1);have hq1:=(show 1<=(q-1)from by subst hm;exact Dig.pos hC hD1 hT4 hT5 hT1);I (by omega:1<=q-1) (I (AbI.start hT5:AbI y s j (ls2.set (j+m) (d%4294967296)) 0 0 (ls2.set (j+m) (d%4294967296))) (λ(i3:Nat)(c3:Nat)(ls3:List Nat)(hb16:HB [.s 216 (.nat .i64) (.n 137438953472),.s 18 (.nat .u64) (.n 1),.bk 66 (.nat .u32) (.n 4294967295)] (i3,c3,ls3))(hB:AbI y s j (ls2.set (j+m) (d%4294967296)) i3 c3 ls3)=>have hv19:=(show i3<=137438953472 from hb16.1);have hv20:=(show c3<=1 from hb16.2.1);have hv21:=(show∀u∈ls3,u<=4294967295 from hb16.2.2);have hBl:=hB.hl;have hBi:=hB.hi;have hBc:=hB.hc;have hbg:=(z7 (by omega) hB.hu: ∀k,ls3.getD k 0<4294967296);have hbg0:=hbg (i3+j);have hbt:=hbg (j+m);have hbv:=qj (y*2^s) i3;q6q (λ(h17:i3<(limbs (y*2^s)).length)=>I (by omega:i3<(limbs (y*2^s)).length) (I (by omega:(i3:Int)+z=((i3+j:Nat):Int)) (I (by omega:i3+j<(limbs x).length+1) (I (by omega:i3+j<ls3.length) (I (by omega:(i3:Int)+z=((i3+j:Nat):Int)) (I (by omega:i3+j<(limbs x).length+1) (I (by omega:i3+j<ls3.length) (I (show(i3+1)<=137438953472 by omega:Bnd (.nat .i64) (.n 137438953472) (i3+1)) (q6q (hB.step (by omega) (by omega) rfl:AbI y s j (ls2.set (j+m) (d%4294967296)) (i3+1) ((c3+((ls3.getD (i3+j) 0)+((limbs (y*2^s)).getD i3 0)))/2^32) (ls3.set (i3+j) ((c3+((ls3.getD (i3+j) 0)+((limbs (y*2^s)).getD i3 0)))%4294967296))) (by omega:(limbs (y*2^s)).length-(i3+1)<(limbs (y*2^s)).length-i3)))))))))) (λ(h18: ¬(i3<(limbs (y*2^s)).length))=>have hB1:=(show i3=m by omega)▸hB;I (by omega:z+(m:Int)=((j+m:Nat):Int)) (I (by omega:j+m<(limbs x).length+1) (I (by omega:j+m<ls3.length) (I (HM _ _:qK .add .u32 ((ls3.getD (j+m) 0:Nat):Int) (c3:Int) ((((ls3.getD (j+m) 0)+c3)%4294967296:Nat):Int)) (I (by omega:((ls3.getD (j+m) 0)+c3)%4294967296<=4294967295) (I (by omega:z+(m:Int)=((j+m:Nat):Int)) (I (by omega:j+m<(limbs x).length+1) (I (by omega:j+m<ls3.length) (have hA:=AbI.top' hB1 (by omega) (by omega);I (by omega:z=(j:Int)) (I (by omega:j<((limbs x).length+1) -m) (I (by omega:j<ql.length) (I (show Int.natAbs (z-1)<=1099511627776 by omega:Bnd (.int .i64) (.n 1099511627776) (z-1)) (q6q (by subst hm;first|exact DivZ.of hz0 hj (hD1.even hC hG hT4 hT5 hT3 (by rw[show d/9223372036854775808=0 by omega,Nat.mul_zero,q7a]at hT1;exact hT1))|exact DivZ.of hz0 hj (hA.elim λc2 hA=>hD1.odd hC hG hT4 hT5 hT3 hT1 hA.2.2.1 hA.2.2.2 hA.2.1 hA.1):DivZ x y s (z-1) (ls3.set (j+m) (((ls3.getD (j+m) 0)+c3)%4294967296)) (ql.set j (((q-1) -1)%4294967296))) (by omega:((z-1)+1).toNat<(z+1).toNat))))))))))))))))) (λ(h22: ¬(d/2^63≠0))=>I (by omega:z=(j:Int)) (I (by omega:j<((limbs x).length+1) -m) (I (by omega:j<ql.length) (I (show Int.natAbs (z-1)<=1099511627776 by omega:Bnd (.int .i64) (.n 1099511627776) (z-1)) (q6q (by subst hm;first|exact DivZ.of hz0 hj (hD1.even hC hG hT4 hT5 hT3 (by rw[show d/9223372036854775808=0 by omega,Nat.mul_zero,q7a]at hT1;exact hT1))|exact DivZ.of hz0 hj (hA.elim λc2 hA=>hD1.odd hC hG hT4 hT5 hT3 hT1 hA.2.2.1 hA.2.2.2 hA.2.1 hA.1):DivZ x y s (z-1) (ls2.set (j+m) (d%4294967296)) (ql.set j ((q-1)%4294967296))) (by omega:((z-1)+1).toNat<(z+1).toNat)))))))))) (dif (dif (ls2.getD (j+m) 0) k) b) rfl)))))))))) (λ(h27: ¬(4294967296<=r+((limbs (y*2^s)).getD (m-1) 0)))=>I (show(r+((limbs (y*2^s)).getD (m-1) 0))<=4294967295 by omega:Bnd (.nat .u64) (.n 4294967295) (r+((limbs (y*2^s)).getD (m-1) 0))) (q6q (by subst hm;exact hE.step hC hD1 hTest (by omega):Est x y s j out (q-1) (r+((limbs (y*2^s)).getD (m-1) 0))) (by omega:q-1<q))))))) (λ(h28: ¬(4294967296<=q))=>I (by omega:2<=m) (I (by omega:m-2<(limbs (y*2^s)).length) (I (by omega:(z+(m:Int)) -2=((j+m-2:Nat):Int)) (I (by omega:j+m-2<(limbs x).length+1) (I (by omega:j+m-2<out.length) (I (Cm _ 32 rfl (hg _) (by have:=hg (j+m-2);omega):qK .or .u64 ((r*2^32:Nat):Int) ((out.getD (j+m-2) 0:Nat):Int) (((r*2^32)+(out.getD (j+m-2) 0):Nat):Int)) (I (by have:=hg (j+m-2);omega:(r*2^32)+(out.getD (j+m-2) 0)<=18446744073709551615) (q6q (λ(h29:(r*2^32)+(out.getD (j+m-2) 0)<q*((limbs (y*2^s)).getD (m-2) 0))=>have hTest:=(show 4294967296<=q\/r*4294967296+out.getD (j+m-2) 0<q*(limbs (y*2^s)).getD (m-2) 0 from by first|exact .inl (by omega)|exact .inr (by omega));have hq1:=(show 1<=q from by subst hm;exact(hE.less hC hD1 hTest).2);I (by omega:1<=q) (I (by omega:1<=m) (I (by omega:m-1<(limbs (y*2^s)).length) (q6q (λ(h30:4294967296<=r+((limbs (y*2^s)).getD (m-1) 0))=>have hG:=(show Dig x y s j out (q-1)from by subst hm;first|exact hE.brk hC hD1 hTest (by omega)|exact hE.fin hC hD1 (by omega) (by omega));I (MsI.start hD1.hu:MsI y s j (q-1) out 0 0 0 out) (λ(i2:Nat)(b:Nat)(k:Nat)(ls2:List Nat)(hb31:HB [.s 156 (.nat .i64) (.n 137438953472),.s 17 (.nat .u64) (.n 1),.s 18 (.nat .u64) (.n 4294967295),.bk 66 (.nat .u32) (.n 4294967295)] (i2,b,k,ls2))(hM:MsI y s j (q-1) out i2 k b ls2)=>have hv42:=(show i2<=137438953472 from hb31.1);have hv43:=(show b<=1 from hb31.2.1);have hv44:=(show k<=4294967295 from hb31.2.2.1);have hv45:=(show∀u∈ls2,u<=4294967295 from hb31.2.2.2);have hMl:=hM.hl;have hMi:=hM.hi;have hMk:=hM.hk;have hMb:=hM.hb;have hGq:=hG.hq;have hmg:=(z7 (by omega) hM.hu: ∀k,ls2.getD k 0<4294967296);have hmg0:=hmg (i2+j);have hmt:=hmg (j+m);have hmv:=qj (y*2^s) i2;have hmm:=(q7v (by omega) (by omega):(q-1)*(limbs (y*2^s)).getD i2 0<=4294967295*4294967295);q6q (λ(h32:i2<(limbs (y*2^s)).length)=>I (by omega:i2<(limbs (y*2^s)).length) (I (JH (by omega):qK .add .u64 (k:Int) (((q-1)*((limbs (y*2^s)).getD i2 0):Nat):Int) ((k+((q-1)*((limbs (y*2^s)).getD i2 0)):Nat):Int)) (I (by omega:k+((q-1)*((limbs (y*2^s)).getD i2 0))<=18446744073709551615) (I (by omega:(i2:Int)+z=((i2+j:Nat):Int)) (I (by omega:i2+j<(limbs x).length+1) (I (by omega:i2+j<ls2.length) (I (JJ (by omega):qK .and .u64 ((k+((q-1)*((limbs (y*2^s)).getD i2 0)):Nat):Int) 4294967295 (((k+((q-1)*((limbs (y*2^s)).getD i2 0)))%4294967296:Nat):Int)) (I (by omega:(k+((q-1)*((limbs (y*2^s)).getD i2 0)))%4294967296<=4294967295) (I (zN (by first|omega|exact w5) (by omega):qK .sub .u64 ((ls2.getD (i2+j) 0:Nat):Int) (((k+((q-1)*((limbs (y*2^s)).getD i2 0)))%4294967296:Nat):Int) ((dif (ls2.getD (i2+j) 0) ((k+((q-1)*((limbs (y*2^s)).getD i2 0)))%4294967296):Nat):Int)) (I (zz _ _:dif (ls2.getD (i2+j) 0) ((k+((q-1)*((limbs (y*2^s)).getD i2 0)))%4294967296)<=18446744073709551615) (I (zN (by first|omega|exact w5) (by omega):qK .sub .u64 ((dif (ls2.getD (i2+j) 0) ((k+((q-1)*((limbs (y*2^s)).getD i2 0)))%4294967296):Nat):Int) (b:Int) ((dif (dif (ls2.getD (i2+j) 0) ((k+((q-1)*((limbs (y*2^s)).getD i2 0)))%4294967296)) b:Nat):Int)) (I (zz _ _:dif (dif (ls2.getD (i2+j) 0) ((k+((q-1)*((limbs (y*2^s)).getD i2 0)))%4294967296)) b<=18446744073709551615) (I (by omega:(i2:Int)+z=((i2+j:Nat):Int)) (I (by omega:i2+j<(limbs x).length+1) (I (by omega:i2+j<ls2.length) (I (show(i2+1)<=137438953472 by omega:Bnd (.nat .i64) (.n 137438953472) (i2+1)) (q6q ((hM.step (by omega) (by omega) hG.hq rfl rfl).1:MsI y s j (q-1) out (i2+1) ((k+((q-1)*((limbs (y*2^s)).getD i2 0)))/2^32) ((dif (dif (ls2.getD (i2+j) 0) ((k+((q-1)*((limbs (y*2^s)).getD i2 0)))%4294967296)) b)/2^63) (ls2.set (i2+j) ((dif (dif (ls2.getD (i2+j) 0) ((k+((q-1)*((limbs (y*2^s)).getD i2 0)))%4294967296)) b)%4294967296))) (by omega:(limbs (y*2^s)).length-(i2+1)<(limbs (y*2^s)).length-i2)))))))))))))))))) (λ(h33: ¬(i2<(limbs (y*2^s)).length))=>have hM1:=(show i2=m by omega)▸hM;I (by omega:z+(m:Int)=((j+m:Nat):Int)) (I (by omega:j+m<(limbs x).length+1) (I (by omega:j+m<ls2.length) (I (zN (by first|omega|exact w5) (by omega):qK .sub .u64 ((ls2.getD (j+m) 0:Nat):Int) (k:Int) ((dif (ls2.getD (j+m) 0) k:Nat):Int)) (I (zz _ _:dif (ls2.getD (j+m) 0) k<=18446744073709551615) (I (zN (by first|omega|exact w5) (by omega):qK .sub .u64 ((dif (ls2.getD (j+m) 0) k:Nat):Int) (b:Int) ((dif (dif (ls2.getD (j+m) 0) k) b:Nat):Int)) (I (zz _ _:dif (dif (ls2.getD (j+m) 0) k) b<=18446744073709551615) ((λ(d:Nat)(hd:d=dif (dif (ls2.getD (j+m) 0) k) b)=>I (by omega:z+(m:Int)=((j+m:Nat):Int)) (I (by omega:j+m<(limbs x).length+1) (I (by omega:j+m<ls2.length) (have hT:=MsI.top hM1 (by omega) (by omega) hd;have hT1:=hT.1;have hT2:=hT.2.1;have hT3:=hT.2.2.1;have hT4:=hT.2.2.2.1;have hT5:=hT.2.2.2.2;q6q (λ(h34:d/2^63≠0)=>have hd1:=(show d/9223372036854775808=1 by omega);have hT1:=(show _ from by rw[hd1]at hT1;exact hT1);have hq1:=(show 1<=(q-1)from by subst hm;exact Dig.pos hC hD1 hT4 hT5 hT1);I (by omega:1<=q-1) (I (AbI.start hT5:AbI y s j (ls2.set (j+m) (d%4294967296)) 0 0 (ls2.set (j+m) (d%4294967296))) (λ(i3:Nat)(c3:Nat)(ls3:List Nat)(hb35:HB [.s 216 (.nat .i64) (.n 137438953472),.s 18 (.nat .u64) (.n 1),.bk 66 (.nat .u32) (.n 4294967295)] (i3,c3,ls3))(hB:AbI y s j (ls2.set (j+m) (d%4294967296)) i3 c3 ls3)=>have hv38:=(show i3<=137438953472 from hb35.1);have hv39:=(show c3<=1 from hb35.2.1);have hv40:=(show∀u∈ls3,u<=4294967295 from hb35.2.2);have hBl:=hB.hl;have hBi:=hB.hi;have hBc:=hB.hc;have hbg:=(z7 (by omega) hB.hu: ∀k,ls3.getD k 0<4294967296);have hbg0:=hbg (i3+j);have hbt:=hbg (j+m);have hbv:=qj (y*2^s) i3;q6q (λ(h36:i3<(limbs (y*2^s)).length)=>I (by omega:i3<(limbs (y*2^s)).length) (I (by omega:(i3:Int)+z=((i3+j:Nat):Int)) (I (by omega:i3+j<(limbs x).length+1) (I (by omega:i3+j<ls3.length) (I (by omega:(i3:Int)+z=((i3+j:Nat):Int)) (I (by omega:i3+j<(limbs x).length+1) (I (by omega:i3+j<ls3.length) (I (show(i3+1)<=137438953472 by omega:Bnd (.nat .i64) (.n 137438953472) (i3+1)) (q6q (hB.step (by omega) (by omega) rfl:AbI y s j (ls2.set (j+m) (d%4294967296)) (i3+1) ((c3+((ls3.getD (i3+j) 0)+((limbs (y*2^s)).getD i3 0)))/2^32) (ls3.set (i3+j) ((c3+((ls3.getD (i3+j) 0)+((limbs (y*2^s)).getD i3 0)))%4294967296))) (by omega:(limbs (y*2^s)).length-(i3+1)<(limbs (y*2^s)).length-i3)))))))))) (λ(h37: ¬(i3<(limbs (y*2^s)).length))=>have hB1:=(show i3=m by omega)▸hB;I (by omega:z+(m:Int)=((j+m:Nat):Int)) (I (by omega:j+m<(limbs x).length+1) (I (by omega:j+m<ls3.length) (I (HM _ _:qK .add .u32 ((ls3.getD (j+m) 0:Nat):Int) (c3:Int) ((((ls3.getD (j+m) 0)+c3)%4294967296:Nat):Int)) (I (by omega:((ls3.getD (j+m) 0)+c3)%4294967296<=4294967295) (I (by omega:z+(m:Int)=((j+m:Nat):Int)) (I (by omega:j+m<(limbs x).length+1) (I (by omega:j+m<ls3.length) (have hA:=AbI.top' hB1 (by omega) (by omega);I (by omega:z=(j:Int)) (I (by omega:j<((limbs x).length+1) -m) (I (by omega:j<ql.length) (I (show Int.natAbs (z-1)<=1099511627776 by omega:Bnd (.int .i64) (.n 1099511627776) (z-1)) (q6q (by subst hm;first|exact DivZ.of hz0 hj (hD1.even hC hG hT4 hT5 hT3 (by rw[show d/9223372036854775808=0 by omega,Nat.mul_zero,q7a]at hT1;exact hT1))|exact DivZ.of hz0 hj (hA.elim λc2 hA=>hD1.odd hC hG hT4 hT5 hT3 hT1 hA.2.2.1 hA.2.2.2 hA.2.1 hA.1):DivZ x y s (z-1) (ls3.set (j+m) (((ls3.getD (j+m) 0)+c3)%4294967296)) (ql.set j (((q-1) -1)%4294967296))) (by omega:((z-1)+1).toNat<(z+1).toNat))))))))))))))))) (λ(h41: ¬(d/2^63≠0))=>I (by omega:z=(j:Int)) (I (by omega:j<((limbs x).length+1) -m) (I (by omega:j<ql.length) (I (show Int.natAbs (z-1)<=1099511627776 by omega:Bnd (.int .i64) (.n 1099511627776) (z-1)) (q6q (by subst hm;first|exact DivZ.of hz0 hj (hD1.even hC hG hT4 hT5 hT3 (by rw[show d/9223372036854775808=0 by omega,Nat.mul_zero,q7a]at hT1;exact hT1))|exact DivZ.of hz0 hj (hA.elim λc2 hA=>hD1.odd hC hG hT4 hT5 hT3 hT1 hA.2.2.1 hA.2.2.2 hA.2.1 hA.1):DivZ x y s (z-1) (ls2.set (j+m) (d%4294967296)) (ql.set j ((q-1)%4294967296))) (by omega:((z-1)+1).toNat<(z+1).toNat)))))))))) (dif (dif (ls2.getD (j+m) 0) k) b) rfl)))))))))) (λ(h46: ¬(4294967296<=r+((limbs (y*2^s)).getD (m-1) 0)))=>I (show(r+((limbs (y*2^s)).getD (m-1) 0))<=4294967295 by omega:Bnd (.nat .u64) (.n 4294967295) (r+((limbs (y*2^s)).getD (m-1) 0))) (q6q (by subst hm;exact hE.step hC hD1 hTest (by omega):Est x y s j out (q-1) (r+((limbs (y*2^s)).getD (m-1) 0))) (by omega:q-1<q))))))) (λ(h47: ¬((r*2^32)+(out.getD (j+m-2) 0)<q*((limbs (y*2^s)).getD (m-2) 0)))=>have hG:=(show Dig x y s j out q from by subst hm;first|exact hE.brk hC hD1 hTest (by omega)|exact hE.fin hC hD1 (by omega) (by omega));I (MsI.start hD1.hu:MsI y s j q out 0 0 0 out) (λ(i2:Nat)(b:Nat)(k:Nat)(ls2:List Nat)(hb48:HB [.s 156 (.nat .i64) (.n 137438953472),.s 17 (.nat .u64) (.n 1),.s 18 (.nat .u64) (.n 4294967295),.bk 66 (.nat .u32) (.n 4294967295)] (i2,b,k,ls2))(hM:MsI y s j q out i2 k b ls2)=>have hv59:=(show i2<=137438953472 from hb48.1);have hv60:=(show b<=1 from hb48.2.1);have hv61:=(show k<=4294967295 from hb48.2.2.1);have hv62:=(show∀u∈ls2,u<=4294967295 from hb48.2.2.2);have hMl:=hM.hl;have hMi:=hM.hi;have hMk:=hM.hk;have hMb:=hM.hb;have hGq:=hG.hq;have hmg:=(z7 (by omega) hM.hu: ∀k,ls2.getD k 0<4294967296);have hmg0:=hmg (i2+j);have hmt:=hmg (j+m);have hmv:=qj (y*2^s) i2;have hmm:=(q7v (by omega) (by omega):q*(limbs (y*2^s)).getD i2 0<=4294967295*4294967295);q6q (λ(h49:i2<(limbs (y*2^s)).length)=>I (by omega:i2<(limbs (y*2^s)).length) (I (JH (by omega):qK .add .u64 (k:Int) ((q*((limbs (y*2^s)).getD i2 0):Nat):Int) ((k+(q*((limbs (y*2^s)).getD i2 0)):Nat):Int)) (I (by omega:k+(q*((limbs (y*2^s)).getD i2 0))<=18446744073709551615) (I (by omega:(i2:Int)+z=((i2+j:Nat):Int)) (I (by omega:i2+j<(limbs x).length+1) (I (by omega:i2+j<ls2.length) (I (JJ (by omega):qK .and .u64 ((k+(q*((limbs (y*2^s)).getD i2 0)):Nat):Int) 4294967295 (((k+(q*((limbs (y*2^s)).getD i2 0)))%4294967296:Nat):Int)) (I (by omega:(k+(q*((limbs (y*2^s)).getD i2 0)))%4294967296<=4294967295) (I (zN (by first|omega|exact w5) (by omega):qK .sub .u64 ((ls2.getD (i2+j) 0:Nat):Int) (((k+(q*((limbs (y*2^s)).getD i2 0)))%4294967296:Nat):Int) ((dif (ls2.getD (i2+j) 0) ((k+(q*((limbs (y*2^s)).getD i2 0)))%4294967296):Nat):Int)) (I (zz _ _:dif (ls2.getD (i2+j) 0) ((k+(q*((limbs (y*2^s)).getD i2 0)))%4294967296)<=18446744073709551615) (I (zN (by first|omega|exact w5) (by omega):qK .sub .u64 ((dif (ls2.getD (i2+j) 0) ((k+(q*((limbs (y*2^s)).getD i2 0)))%4294967296):Nat):Int) (b:Int) ((dif (dif (ls2.getD (i2+j) 0) ((k+(q*((limbs (y*2^s)).getD i2 0)))%4294967296)) b:Nat):Int)) (I (zz _ _:dif (dif (ls2.getD (i2+j) 0) ((k+(q*((limbs (y*2^s)).getD i2 0)))%4294967296)) b<=18446744073709551615) (I (by omega:(i2:Int)+z=((i2+j:Nat):Int)) (I (by omega:i2+j<(limbs x).length+1) (I (by omega:i2+j<ls2.length) (I (show(i2+1)<=137438953472 by omega:Bnd (.nat .i64) (.n 137438953472) (i2+1)) (q6q ((hM.step (by omega) (by omega) hG.hq rfl rfl).1:MsI y s j q out (i2+1) ((k+(q*((limbs (y*2^s)).getD i2 0)))/2^32) ((dif (dif (ls2.getD (i2+j) 0) ((k+(q*((limbs (y*2^s)).getD i2 0)))%4294967296)) b)/2^63) (ls2.set (i2+j) ((dif (dif (ls2.getD (i2+j) 0) ((k+(q*((limbs (y*2^s)).getD i2 0)))%4294967296)) b)%4294967296))) (by omega:(limbs (y*2^s)).length-(i2+1)<(limbs (y*2^s)).length-i2)))))))))))))))))) (λ(h50: ¬(i2<(limbs (y*2^s)).length))=>have hM1:=(show i2=m by omega)▸hM;I (by omega:z+(m:Int)=((j+m:Nat):Int)) (I (by omega:j+m<(limbs x).length+1) (I (by omega:j+m<ls2.length) (I (zN (by first|omega|exact w5) (by omega):qK .sub .u64 ((ls2.getD (j+m) 0:Nat):Int) (k:Int) ((dif (ls2.getD (j+m) 0) k:Nat):Int)) (I (zz _ _:dif (ls2.getD (j+m) 0) k<=18446744073709551615) (I (zN (by first|omega|exact w5) (by omega):qK .sub .u64 ((dif (ls2.getD (j+m) 0) k:Nat):Int) (b:Int) ((dif (dif (ls2.getD (j+m) 0) k) b:Nat):Int)) (I (zz _ _:dif (dif (ls2.getD (j+m) 0) k) b<=18446744073709551615) ((λ(d:Nat)(hd:d=dif (dif (ls2.getD (j+m) 0) k) b)=>I (by omega:z+(m:Int)=((j+m:Nat):Int)) (I (by omega:j+m<(limbs x).length+1) (I (by omega:j+m<ls2.length) (have hT:=MsI.top hM1 (by omega) (by omega) hd;have hT1:=hT.1;have hT2:=hT.2.1;have hT3:=hT.2.2.1;have hT4:=hT.2.2.2.1;have hT5:=hT.2.2.2.2;q6q (λ(h51:d/2^63≠0)=>have hd1:=(show d/9223372036854775808=1 by omega);have hT1:=(show _ from by rw[hd1]at hT1;exact hT1);have hq1:=(show 1<=q from by subst hm;exact Dig.pos hC hD1 hT4 hT5 hT1);I (by omega:1<=q) (I (AbI.start hT5:AbI y s j (ls2.set (j+m) (d%4294967296)) 0 0 (ls2.set (j+m) (d%4294967296))) (λ(i3:Nat)(c3:Nat)(ls3:List Nat)(hb52:HB [.s 216 (.nat .i64) (.n 137438953472),.s 18 (.nat .u64) (.n 1),.bk 66 (.nat .u32) (.n 4294967295)] (i3,c3,ls3))(hB:AbI y s j (ls2.set (j+m) (d%4294967296)) i3 c3 ls3)=>have hv55:=(show i3<=137438953472 from hb52.1);have hv56:=(show c3<=1 from hb52.2.1);have hv57:=(show∀u∈ls3,u<=4294967295 from hb52.2.2);have hBl:=hB.hl;have hBi:=hB.hi;have hBc:=hB.hc;have hbg:=(z7 (by omega) hB.hu: ∀k,ls3.getD k 0<4294967296);have hbg0:=hbg (i3+j);have hbt:=hbg (j+m);have hbv:=qj (y*2^s) i3;q6q (λ(h53:i3<(limbs (y*2^s)).length)=>I (by omega:i3<(limbs (y*2^s)).length) (I (by omega:(i3:Int)+z=((i3+j:Nat):Int)) (I (by omega:i3+j<(limbs x).length+1) (I (by omega:i3+j<ls3.length) (I (by omega:(i3:Int)+z=((i3+j:Nat):Int)) (I (by omega:i3+j<(limbs x).length+1) (I (by omega:i3+j<ls3.length) (I (show(i3+1)<=137438953472 by omega:Bnd (.nat .i64) (.n 137438953472) (i3+1)) (q6q (hB.step (by omega) (by omega) rfl:AbI y s j (ls2.set (j+m) (d%4294967296)) (i3+1) ((c3+((ls3.getD (i3+j) 0)+((limbs (y*2^s)).getD i3 0)))/2^32) (ls3.set (i3+j) ((c3+((ls3.getD (i3+j) 0)+((limbs (y*2^s)).getD i3 0)))%4294967296))) (by omega:(limbs (y*2^s)).length-(i3+1)<(limbs (y*2^s)).length-i3)))))))))) (λ(h54: ¬(i3<(limbs (y*2^s)).length))=>have hB1:=(show i3=m by omega)▸hB;I (by omega:z+(m:Int)=((j+m:Nat):Int)) (I (by omega:j+m<(limbs x).length+1) (I (by omega:j+m<ls3.length) (I (HM _ _:qK .add .u32 ((ls3.getD (j+m) 0:Nat):Int) (c3:Int) ((((ls3.getD (j+m) 0)+c3)%4294967296:Nat):Int)) (I (by omega:((ls3.getD (j+m) 0)+c3)%4294967296<=4294967295) (I (by omega:z+(m:Int)=((j+m:Nat):Int)) (I (by omega:j+m<(limbs x).length+1) (I (by omega:j+m<ls3.length) (have hA:=AbI.top' hB1 (by omega) (by omega);I (by omega:z=(j:Int)) (I (by omega:j<((limbs x).length+1) -m) (I (by omega:j<ql.length) (I (show Int.natAbs (z-1)<=1099511627776 by omega:Bnd (.int .i64) (.n 1099511627776) (z-1)) (q6q (by subst hm;first|exact DivZ.of hz0 hj (hD1.even hC hG hT4 hT5 hT3 (by rw[show d/9223372036854775808=0 by omega,Nat.mul_zero,q7a]at hT1;exact hT1))|exact DivZ.of hz0 hj (hA.elim λc2 hA=>hD1.odd hC hG hT4 hT5 hT3 hT1 hA.2.2.1 hA.2.2.2 hA.2.1 hA.1):DivZ x y s (z-1) (ls3.set (j+m) (((ls3.getD (j+m) 0)+c3)%4294967296)) (ql.set j ((q-1)%4294967296))) (by omega:((z-1)+1).toNat<(z+1).toNat))))))))))))))))) (λ(h58: ¬(d/2^63≠0))=>I (by omega:z=(j:Int)) (I (by omega:j<((limbs x).length+1) -m) (I (by omega:j<ql.length) (I (show Int.natAbs (z-1)<=1099511627776 by omega:Bnd (.int .i64) (.n 1099511627776) (z-1)) (q6q (by subst hm;first|exact DivZ.of hz0 hj (hD1.even hC hG hT4 hT5 hT3 (by rw[show d/9223372036854775808=0 by omega,Nat.mul_zero,q7a]at hT1;exact hT1))|exact DivZ.of hz0 hj (hA.elim λc2 hA=>hD1.odd hC hG hT4 hT5 hT3 hT1 hA.2.2.1 hA.2.2.2 hA.2.1 hA.1):DivZ x y s (z-1) (ls2.set (j+m) (d%4294967296)) (ql.set j (q%4294967296))) (by omega:((z-1)+1).toNat<(z+1).toNat)))))))))) (dif (dif (ls2.getD (j+m) 0) k) b) rfl))))))))))))))))))))))))))) (((out.getD (j+m) 0)*2^32)+(out.getD (j+m-1) 0)) rfl))))))))) z.toNat rfl) (λ(h65: ¬(0<=z))=>have hF:=hD.fin (by omega);I (by omega:(limbs x).length+1=out.length) (I (DownI.start hF.2.2.2 hDb.2.2.1 rfl:DownI (qe out) s ((limbs x).length+1) 0 out) (λ(i4:Nat)(ls4:List Nat)(hb66:HB [.s 262 (.nat .i64) (.n 1099511627776),.bk 66 (.nat .u32) (.n 4294967295)] (i4,ls4))(hW:DownI (qe out) s ((limbs x).length+1) i4 ls4)=>have hv73:=(show i4<=1099511627776 from hb66.1);have hv74:=(show∀u∈ls4,u<=4294967295 from hb66.2);have hWl:=hW.hl;have hWi:=hW.hi;have hWN:=hW.hN;have hwg:=(z7 (by omega) hW.hu: ∀k,ls4.getD k 0<4294967296);q6q (λ(h67:i4<(limbs (qe out)).length)=>I (by omega:i4<(limbs (qe out)).length) (I (by omega:i4<ls4.length) (I (JK _ _ (show s<=32 by omega):qK .shr .u32 ((ls4.getD i4 0:Nat):Int) (s:Int) (((ls4.getD i4 0)/2^s:Nat):Int)) (I (q7k (q7b _ _) (by have:=hwg i4;omega):(ls4.getD i4 0)/2^s<=4294967295) (I (by omega:i4<(limbs (qe out)).length) (I (by omega:i4<ls4.length) (q6q (λ(h68:0<s)=>q6q (λ(h69:i4+1<(limbs (qe out)).length)=>I (by omega:i4<(limbs (qe out)).length) (I (by simp only[List.length_set];omega:i4<(ls4.set i4 ((ls4.getD i4 0)/2^s)).length) (I (by omega:i4+1<(limbs (qe out)).length) (I (by simp only[List.length_set];omega:i4+1<(ls4.set i4 ((ls4.getD i4 0)/2^s)).length) (I (by omega:s<=32) (I (TU _ _ (by omega):qK .shl .u32 (((ls4.set i4 ((ls4.getD i4 0)/2^s)).getD (i4+1) 0:Nat):Int) ((32-s:Nat):Int) ((((ls4.set i4 ((ls4.getD i4 0)/2^s)).getD (i4+1) 0)*2^(32-s)%4294967296:Nat):Int)) (I (by omega:((ls4.set i4 ((ls4.getD i4 0)/2^s)).getD (i4+1) 0)*2^(32-s)%4294967296<=4294967295) (I ((LP (by omega) hwg (by omega)).1:qK .or .u32 (((ls4.set i4 ((ls4.getD i4 0)/2^s)).getD i4 0:Nat):Int) ((((ls4.set i4 ((ls4.getD i4 0)/2^s)).getD (i4+1) 0)*2^(32-s)%4294967296:Nat):Int) ((((ls4.set i4 ((ls4.getD i4 0)/2^s)).getD i4 0)+(((ls4.set i4 ((ls4.getD i4 0)/2^s)).getD (i4+1) 0)*2^(32-s)%4294967296):Nat):Int)) (I ((LP (by omega) hwg (by omega)).2:((ls4.set i4 ((ls4.getD i4 0)/2^s)).getD i4 0)+(((ls4.set i4 ((ls4.getD i4 0)/2^s)).getD (i4+1) 0)*2^(32-s)%4294967296)<=4294967295) (I (by omega:i4<(limbs (qe out)).length) (I (by simp only[List.length_set];omega:i4<(ls4.set i4 ((ls4.getD i4 0)/2^s)).length) (I (show(i4+1)<=1099511627776 by omega:Bnd (.nat .i64) (.n 1099511627776) (i4+1)) (q6q (by first|exact hW.step1 (by omega) (by omega) (by omega)|exact hW.step2 (by omega) (by omega):DownI (qe out) s ((limbs x).length+1) (i4+1) ((ls4.set i4 ((ls4.getD i4 0)/2^s)).set i4 (((ls4.set i4 ((ls4.getD i4 0)/2^s)).getD i4 0)+(((ls4.set i4 ((ls4.getD i4 0)/2^s)).getD (i4+1) 0)*2^(32-s)%4294967296)))) (by omega:(limbs (qe out)).length-(i4+1)<(limbs (qe out)).length-i4)))))))))))))) (λ(h70: ¬(i4+1<(limbs (qe out)).length))=>I (show(i4+1)<=1099511627776 by omega:Bnd (.nat .i64) (.n 1099511627776) (i4+1)) (q6q (by first|exact hW.step1 (by omega) (by omega) (by omega)|exact hW.step2 (by omega) (by omega):DownI (qe out) s ((limbs x).length+1) (i4+1) (ls4.set i4 ((ls4.getD i4 0)/2^s))) (by omega:(limbs (qe out)).length-(i4+1)<(limbs (qe out)).length-i4)))) (λ(h71: ¬(0<s))=>I (show(i4+1)<=1099511627776 by omega:Bnd (.nat .i64) (.n 1099511627776) (i4+1)) (q6q (by first|exact hW.step1 (by omega) (by omega) (by omega)|exact hW.step2 (by omega) (by omega):DownI (qe out) s ((limbs x).length+1) (i4+1) (ls4.set i4 ((ls4.getD i4 0)/2^s))) (by omega:(limbs (qe out)).length-(i4+1)<(limbs (qe out)).length-i4)))))))))) (λ(h72: ¬(i4<(limbs (qe out)).length))=>I (by omega:((limbs x).length+1) -m=ql.length) (I (by omega:(limbs (qe out)).length<=ls4.length) (have hFin:=(DownI.fin' hW (by omega) rfl);I (hF.2.2.1: ∀u∈ql,u<4294967296) (I (hFin.2: ∀u∈ls4.take ((limbs (qe out)).length),u<4294967296) (q6q (hF.1:qe ql=x/y) (by rw[hFin.1,hF.2.1,Nat.mul_div_cancel _ (q7C (by omega))]:qe (ls4.take ((limbs (qe out)).length))=x%y))))))))))))) ((limbs (y*2^s)).length) hV)))) (32-bl ((limbs y).getD (((limbs y).length) -1) 0)) rfl))))))⟩)
abbrev T3:Ctr Tryz.prog:=FI.c q4y
abbrev q4I:FI:=⟨144,[.mag,.mag],[(.n 1099511627776),(.n 1099511627776)],λ_=>[],λb z=>(λ(x:Nat)(y:Nat)=> .c (.one (.dt .mag (.n (max (b0 b).nb (b1 b).nb)) (Nat.gcd x y)))) z.1 z.2⟩
theorem q4J:q4I.OK Tryz.prog:=qB hmix 61 Tryz.func144 rfl rfl (by decide) [(71,.c Ds),(154,.c BU),(157,.c T3),(161,.c of_c),(191,.c W7)] (λ(x:Nat)(y:Nat) b hx hp=>qa (M8 (Bnds.h2 hx).1.mag (Bnds.h2 hx).2.mag) rfl) (λ(x:Nat)(y:Nat) hx hp=>by
 have hx0:qJ x 1099511627776:=hx.1;have hl0:(limbs x).length<=34359738369:=qv (q7h hx0);have hx1:qJ y 1099511627776:=hx.2;have hl1:(limbs y).length<=34359738369:=qv (q7h hx1)
 refine⟨.loop [.s 5 .mag (.n 1099511627776),.s 6 .mag (.n 1099511627776)] (λ((a,b):Nat×Nat)=>Nat.gcd a b=Nat.gcd x y) (λ((a,b):Nat×Nat)=>b) (λ((a,b):Nat×Nat)=> .cond (.nil) (.cond (.nil) (.cond (.loop [.s 13 (.nat .u64) (.n 18446744073709551615),.s 14 (.nat .u64) (.n 18446744073709551615)] (λ((u,v):Nat×Nat)=>Nat.gcd u v=Nat.gcd x y) (λ((u,v):Nat×Nat)=>v) (λ((u,v):Nat×Nat)=> .nil)) (.loop [.s 13 (.nat .u64) (.n 18446744073709551615),.s 14 (.nat .u64) (.n 18446744073709551615)] (λ((u,v):Nat×Nat)=>Nat.gcd u v=Nat.gcd x y) (λ((u,v):Nat×Nat)=>v) (λ((u,v):Nat×Nat)=> .nil))))),kcast (by kernel_rfl) (I (rfl:Nat.gcd x y=Nat.gcd x y) (λ(a:Nat)(b:Nat)(hb1:HB [.s 5 .mag (.n 1099511627776),.s 6 .mag (.n 1099511627776)] (a,b))(hC:Nat.gcd a b=Nat.gcd x y)=>Sp (2<(limbs b).length) (λh2=>have hb0:=(show 0<b from q7z (λe=>by have:=nl0.2 e;omega));I (hb0:0<b) (q6q ((wo a b).trans hC:Nat.gcd b (a%b)=Nat.gcd x y) (q7q _ hb0:a%b<b))) (λh3=>Sp ((limbs b).length=0) (λh4=>(by have e:=nl0.1 (show(limbs b).length=0 by omega);rw[e,Nat.gcd_zero_right]at hC;exact hC:a=Nat.gcd x y)) (λh5=>Sp (2<(limbs a).length) (λh6=>have hb0:=(show 0<b from q7z (λe=>by have:=nl0.2 e;omega));I (hb0:0<b) (I (?_:(limbs b).length<=2) (I (?_:(limbs (a%b)).length<=2) (I (by first|exact hC|exact(wo a b).trans hC:Nat.gcd b (a%b)=Nat.gcd x y) (λ(u:Nat)(v:Nat)(hb7:HB [.s 13 (.nat .u64) (.n 18446744073709551615),.s 14 (.nat .u64) (.n 18446744073709551615)] (u,v))(hK:Nat.gcd u v=Nat.gcd x y)=>have hv10:=(show u<=18446744073709551615 from hb7.1);have hv11:=(show v<=18446744073709551615 from hb7.2);Sp (v≠0) (λh8=>I (?_:0<v) (q6q ((wo u v).trans hK:Nat.gcd v (u%v)=Nat.gcd x y) (q7q _ (by omega):u%v<v))) (λh9=>(by rw[show v=0 by omega,Nat.gcd_zero_right]at hK;exact hK:u=Nat.gcd x y))))))) (λh12=>I (?_:(limbs a).length<=2) (I (?_:(limbs b).length<=2) (I (by first|exact hC|exact(wo a b).trans hC:Nat.gcd a b=Nat.gcd x y) (λ(u:Nat)(v:Nat)(hb13:HB [.s 13 (.nat .u64) (.n 18446744073709551615),.s 14 (.nat .u64) (.n 18446744073709551615)] (u,v))(hK:Nat.gcd u v=Nat.gcd x y)=>have hv16:=(show u<=18446744073709551615 from hb13.1);have hv17:=(show v<=18446744073709551615 from hb13.2);Sp (v≠0) (λh14=>I (?_:0<v) (q6q ((wo u v).trans hK:Nat.gcd v (u%v)=Nat.gcd x y) (q7q _ (by omega):u%v<v))) (λh15=>(by rw[show v=0 by omega,Nat.gcd_zero_right]at hK;exact hK:u=Nat.gcd x y))))))))))⟩<;>first|omega|(first|omega|exact q7k (zL (q7h (q7q a hb0))) (by omega)))
abbrev gcd_c:Ctr Tryz.prog:=FI.c q4J
abbrev q2v:FI:=⟨98,[],[],λ_=>[],λb z=> .c (.one (.dt .mag (.n (1)) (1)))⟩
theorem q2w:q2v.OK Tryz.prog:=qB hmix 2 Tryz.func98 rfl rfl (by decide) [] (λ b hx hp=>qa (I0 rfl) rfl) (λ hx hp=>by
 refine⟨.h 1 0 (.mk (.im (.nat .u32) (.n 4294967295))) (.h 1 1 (.mag 1 1) (.nil)),kcast (by kernel_rfl) (I (Aw.symm:[1]=limbs 1) (I (I0 rfl:qJ 1 1) ((Eq.refl 1))))⟩)
abbrev PG:Ctr Tryz.prog:=FI.c q2w
abbrev WX:FI:=⟨97,[(.int .i64)],[(.n 9223372036854775807)],λ_=>[],λb z=>(λ(v:Int)=> .c (.one (.dt .mag (.n (Nat.log2 (b0 b).nb+1)) (v.natAbs)))) z⟩
theorem WY:WX.OK Tryz.prog:=qB hmix 12 Tryz.func97 rfl rfl (by decide) [(161,.c of_c)] (λ(v:Int) b hx hp=>qa (A6 (Bnds.h1 hx).int) rfl) (λ(v:Int) hx hp=>by
 have hx0:Int.natAbs v<=9223372036854775807:=hx
 refine⟨.cond (.dead) (.h 3 4 (.i (.n v.natAbs 9223372036854775807)) (.nil)),kcast (by kernel_rfl) (Sp (v=(-9223372036854775808)) (λh1=>(?_:False)) (λh2=>I (by rw[show max v (-v)=((v.natAbs:Nat):Int) by omega];exact wX (by omega):IntKind.wrap .u64 (max v (-v))=((v.natAbs:Nat):Int)) (I (?_:v.natAbs<=9223372036854775807) ((Eq.refl v.natAbs)))))⟩<;>omega)
abbrev Mj:Ctr Tryz.prog:=FI.c WY
abbrev q2h:FI:=⟨93,[.rat],[(.n 1099511627776)],λ_=>[],λb z=>(λ(x:Rat)=> .c (.one (.dt .mag (.n ((b0 b).nb+1)) (x.den)))) z⟩
theorem q2i:q2h.OK Tryz.prog:=qB hmix 10 Tryz.func93 rfl rfl (by decide) [(98,.c PG)] (λ(x:Rat) b hx hp=>qa (A4 (Bnds.h1 hx).rat.2) rfl) (λ(x:Rat) hx hp=>by
 have hx0:Bnd .rat (.n 1099511627776) x:=hx
 refine⟨.cond (.nil) (.h 3 2 (.mag x.den 1099511627777) (.nil)),kcast (by kernel_rfl) (Sp ((denL x.den).length=0) (λh1=>((C6 x.den_nz (by omega)).symm:1=x.den)) (λh2=>I (BA (by omega):denL x.den=limbs x.den) (I (A4 hx0.2:qJ x.den 1099511627777) ((Eq.refl x.den)))))⟩)
abbrev Eu:Ctr Tryz.prog:=FI.c q2i
abbrev q2k:FI:=⟨155,[(.nat .u64),(.nat .u64)],[(.n 18446744073709551615),(.n 18446744073709551615)],λ_=>[],λb z=>(λ(n:Nat)(d:Nat)=> .c (.one (.dt (.nat .u64) (.n (max (b0 b).nb (b1 b).nb)) (Nat.gcd n d)))) z.1 z.2⟩
theorem q2l:q2k.OK Tryz.prog:=qB hmix 12 Tryz.func155 rfl rfl (by decide) [] (λ(n:Nat)(d:Nat) b hx hp=>qa (V6 (Bnds.h2 hx).1.nat (Bnds.h2 hx).2.nat) rfl) (λ(n:Nat)(d:Nat) hx hp=>by
 have hx0:n<=18446744073709551615:=hx.1;have hx1:d<=18446744073709551615:=hx.2
 refine⟨.loop [.s 0 (.nat .u64) (.n 18446744073709551615),.s 1 (.nat .u64) (.n 18446744073709551615)] (λ((u,v):Nat×Nat)=>Nat.gcd u v=Nat.gcd n d) (λ((u,v):Nat×Nat)=>v) (λ((u,v):Nat×Nat)=> .nil),kcast (by kernel_rfl) (I (rfl:Nat.gcd n d=Nat.gcd n d) (λ(u:Nat)(v:Nat)(hb1:HB [.s 0 (.nat .u64) (.n 18446744073709551615),.s 1 (.nat .u64) (.n 18446744073709551615)] (u,v))(hK:Nat.gcd u v=Nat.gcd n d)=>have hv4:=(show u<=18446744073709551615 from hb1.1);have hv5:=(show v<=18446744073709551615 from hb1.2);Sp (v≠0) (λh2=>I (?_:0<v) (q6q ((wo u v).trans hK:Nat.gcd v (u%v)=Nat.gcd n d) (q7q _ (by omega):u%v<v))) (λh3=>(by rw[show v=0 by omega,Nat.gcd_zero_right]at hK;exact hK:u=Nat.gcd n d))))⟩<;>omega)
abbrev q2j:Ctr Tryz.prog:=FI.c q2l
abbrev RW:FV:=⟨156,false,(.nat .u32),(.n 4294967295),1099511627776,[(.nat .u64)],[(.n 18446744073709551615)],λl lo n cap z=>(λ(v:Nat)=>[2<=n,lo+2<=l.length,v<=18446744073709551615]) z,λk b l lo n cap z=>(λ(v:Nat)=> .c (.one (.dt (.nat .i64) (.n 2) (nlw v)))) z,λl lo n cap z=>(λ(v:Nat)=>vW l lo v) z⟩
theorem RX:RW.OK Tryz.prog:=mkSl hmix 17 Tryz.func156 rfl rfl (by decide) [] (λ_=>rfl) (λ_ _ _ _ _=>rfl) (λ_ _ _ _ _ _ _=>rfl) (λ_ _ _ _ _ _=>rfl) (λ(l:List Nat)(lo n cap:Nat)(v:Nat) k b hx hs hn(hm:n<=1099511627776) hp=>⟨qa (KA v).2 rfl,RN (hp _ (q6V _ (q6V _ q6W))) hs⟩) (λ(l:List Nat)(lo n cap:Nat)(v:Nat) hs hx hn(hm:n<=1099511627776) hp=>by
 have hx0:v<=18446744073709551615:=hx;have hp0:2<=n:=hp _ (q6W);have hp1:lo+2<=l.length:=hp _ (q6V _ (q6W));have hp2:v<=18446744073709551615:=hp _ (q6V _ (q6V _ (q6W)))
 refine⟨.nil,kcast (by kernel_rfl) (I (?_:0<n) (I (?_:lo+0<l.length) (Sp (v/2^32=0) (λh1=>q6q (by rw[vW,if_pos (by assumption)]:l.set (lo+0) (v%4294967296)=vW l lo v) ((by rw[nlw,if_pos (by assumption)]:1=nlw v))) (λh2=>I (?_:1<n) (I (by simp only[List.length_set];omega:lo+1<(l.set (lo+0) (v%4294967296)).length) (q6q (by rw[vW,if_neg (by assumption)]:(l.set (lo+0) (v%4294967296)).set (lo+1) (v/2^32)=vW l lo v) ((by rw[nlw,if_neg (by assumption)]:2=nlw v))))))))⟩<;>omega)
abbrev RV:CtrS Tryz.prog:=FV.c RX
abbrev Xa:FI:=⟨94,[.bool,(.nat .u64),(.nat .u64)],[.u,(.n 18446744073709551615),(.n 18446744073709551615)],λz=>(λ(neg:Bool)(n:Nat)(d:Nat)=>[0<d]) z.1 z.2.1 z.2.2,λb z=>(λ(neg:Bool)(n:Nat)(d:Nat)=> .c (.agg [.dt .rat (.n (max (Nat.log2 (b1 b).nb+1) (Nat.log2 (b2 b).nb+1))) (qm neg n d)])) z.1 z.2.1 z.2.2⟩
theorem Xb:Xa.OK Tryz.prog:=qB hmix 50 Tryz.func94 rfl rfl (by decide) [(155,.c q2j),(156,.s RV)] (λ(neg:Bool)(n:Nat)(d:Nat) b hx hp=>jL (qT (qk (Nat.le_max_left _ _) (A6 (Bnds.h3 hx).2.1.nat)) (qX (qk (Nat.le_max_right _ _) (A6 (Bnds.h3 hx).2.2.nat))) (hp _ q6W))) (λ(neg:Bool)(n:Nat)(d:Nat) hx hp=>by
 have hx1:n<=18446744073709551615:=hx.2.1;have hx2:d<=18446744073709551615:=hx.2.2;have hp0:0<d:=hp _ (q6W)
 refine⟨.cond (.nil) ((λ(g:Nat)=>(λ(n1:Nat)=>(λ(d1:Nat)=> .h 5 0 (.mk (.arr (.nat .u32) (.n 4294967295))) ((λ(a:Nat)=> .cond ((λ(b:Nat)=> .pre 11 (.frz 24 false []) (.h 11 0 (.rat (qm neg n d) 64) (.nil))) (a+(nlw d1))) (.pre 11 (.frz 24 false []) (.h 11 0 (.rat (qm neg n d) 64) (.nil)))) (nlw n1))) (d/g)) (n/g)) (Nat.gcd n d)),kcast (by kernel_rfl) (q6q (λ(h1:n=0)=>(by rw[show n=0 by omega,DS]:0=qm neg n d)) (λ(h2: ¬(n=0))=>(λ(g:Nat)(hg:g=Nat.gcd n d)=>have hg0:=(show 0<g from hg▸Nat.gcd_pos_of_pos_right _ hp0);I (by omega:0<g) (I (by omega:0<g) ((λ(n1:Nat)(hn1:n1=n/g)=>(λ(d1:Nat)(hd1:d1=d/g)=>have hn0:=(show 0<n1 from by rw[hn1,hg];exact Nat.div_pos (Nat.gcd_le_left _ (by omega)) (hg▸hg0));have hd0:=(show 0<d1 from by rw[hd1,hg];exact Nat.div_pos (Nat.gcd_le_right _ (by omega)) (hg▸hg0));have hn9:=(show n1<=18446744073709551615 from by rw[hn1];exact q7k (q7b _ _) hx1);have hd9:=(show d1<=18446744073709551615 from by rw[hd1];exact q7k (q7b _ _) hx2);I (by omega:2<=4) (I (by simp:0+2<=(List.replicate 4 (0:Nat)).length) (I (by omega:n1<=18446744073709551615) ((λ(a:Nat)(ha:a=nlw n1)=>have ha1:=(show 1<=a/\a<=2 from by rw[ha];exact KA n1);have hL:=(show(vW (List.replicate 4 (0:Nat)) 0 n1).length=4 from KL _ _ _);I (by omega:a<=4) (I (by omega:a=a) (q6q (λ(h3:1<d1)=>I (by omega:a<=4) (I (by omega:a<4) (I (by omega:2<=4-a) (I (by omega:a+2<=(vW (List.replicate 4 (0:Nat)) 0 n1).length) (I (by omega:d1<=18446744073709551615) ((λ(b:Nat)(hb:b=a+(nlw d1))=>have hb1:=KA d1;have hL2:=(show(vW (vW (List.replicate 4 (0:Nat)) 0 n1) a d1).length=4 from(KL _ _ _).trans hL);I (by omega:a<b) (I (by omega:b<=4) (I (by omega:b=b) (I (by omega:a<=(vW (vW (List.replicate 4 (0:Nat)) 0 n1) a d1).length) (I (by omega:a+(b-a)<=(vW (vW (List.replicate 4 (0:Nat)) 0 n1) a d1).length) (I ((jU (by omega) hp0).symm:neg=decide ((qm neg n d).num<0)) (I (by rw[jF hp0,<-hg,<-hn1];subst ha;first|exact KW hn0 hn9|exact Mo hn0 hn9:(vW (vW (List.replicate 4 (0:Nat)) 0 n1) a d1).take a=limbs ((qm neg n d).num.natAbs)) (I (by rw[(jp hp0).2,<-hg,<-hd1,denL,if_neg (by omega)];subst hb ha;exact X9 hd0 hd9:((vW (vW (List.replicate 4 (0:Nat)) 0 n1) a d1).drop a).take (b-a)=denL (qm neg n d).den) (I (by rw[jF hp0,<-hg,<-hn1];exact q7l hn9 (by decide):qJ (qm neg n d).num.natAbs 64) (I (by rw[(jp hp0).2,<-hg,<-hd1];exact q7k hd9 (by decide):le2 (qm neg n d).den 64) ((Eq.refl (qm neg n d))))))))))))) (a+(nlw d1)) rfl)))))) (λ(h4: ¬(1<d1))=>I (by omega:a<=(vW (List.replicate 4 (0:Nat)) 0 n1).length) (I ((jU (by omega) hp0).symm:neg=decide ((qm neg n d).num<0)) (I (by rw[jF hp0,<-hg,<-hn1];subst ha;first|exact KW hn0 hn9|exact Mo hn0 hn9:(vW (List.replicate 4 (0:Nat)) 0 n1).take a=limbs ((qm neg n d).num.natAbs)) (I (by rw[(jp hp0).2,<-hg,<-hd1];omega:(qm neg n d).den=1) (I (by rw[jF hp0,<-hg,<-hn1];exact q7l hn9 (by decide):qJ (qm neg n d).num.natAbs 64) (I (by rw[(jp hp0).2,<-hg,<-hd1];exact q7k hd9 (by decide):le2 (qm neg n d).den 64) ((Eq.refl (qm neg n d)))))))))))) (nlw n1) rfl)))) (d/g) rfl) (n/g) rfl))) (Nat.gcd n d) rfl))⟩)
abbrev Fq:Ctr Tryz.prog:=FI.c Xb
abbrev Wg:FI:=⟨89,[.rat],[(.n 1099511627776)],λ_=>[],λb z=>(λ(x:Rat)=> .tup [.one (.dt (.nat .u64) (.n 4294967295) (pn x)),.one (.dt (.nat .u64) (.n 4294967295) (pd x)),.one (.dt .bool .u (pb x))]) z⟩
theorem Wh:Wg.OK Tryz.prog:=qB hmix 30 Tryz.func89 rfl rfl (by decide) [(153,.c Mk)] (λ(x:Rat) b hx hp=>qc (qa (Hk x) rfl) (qc (qa (Hj x) rfl) (qc (qa trivial rfl) qy))) (λ(x:Rat) hx hp=>by
 refine⟨.nil,kcast (by kernel_rfl) (Sp (1<(limbs x.num.natAbs).length) (λh1=>q6q ((Fe (by first|exact .inl (by assumption)|exact .inr (by assumption))).1:0=pn x) (q6q ((Fe (by first|exact .inl (by assumption)|exact .inr (by assumption))).2.1:0=pd x) ((Fe (by first|exact .inl (by assumption)|exact .inr (by assumption))).2.2:false=pb x))) (λh2=>Sp (1<(denL x.den).length) (λh3=>q6q ((Fe (by first|exact .inl (by assumption)|exact .inr (by assumption))).1:0=pn x) (q6q ((Fe (by first|exact .inl (by assumption)|exact .inr (by assumption))).2.1:0=pd x) ((Fe (by first|exact .inl (by assumption)|exact .inr (by assumption))).2.2:false=pb x))) (λh4=>have hs:=p_sm (x:=x) (by unfold bigQ;omega);Sp ((denL x.den).length=1) (λh5=>I (?_:0<(denL x.den).length) (I (?_:(limbs x.num.natAbs).length<=2) (q6q (hs.1:x.num.natAbs=pn x) (q6q (by have:=hs.2.1;have:= @Of x.den (by omega);omega:(denL x.den).getD 0 0=pd x) (by rw[hs.2.2];have:= @Of x.den (by omega);have:=x.den_nz;exact decide_eq_true (by omega):decide ((denL x.den).getD 0 0≠0)=pb x))))) (λh6=>I (?_:(limbs x.num.natAbs).length<=2) (q6q (hs.1:x.num.natAbs=pn x) (q6q (by rw[<-hs.2.1];exact(C6 x.den_nz (by omega)).symm:1=pd x) (by rw[hs.2.2]:true=pb x)))))))⟩<;>omega)
abbrev Fg:Ctr Tryz.prog:=FI.c Wh
abbrev RT:FI:=⟨95,[.bool,.mag,.mag],[.u,(.n 1099511627776),(.n 1099511627776)],λ_=>[],λb z=>(λ(neg:Bool)(n:Nat)(d:Nat)=> .c (.agg [.dt .rat (.n (max (b1 b).nb (b2 b).nb)) (qm neg n d)])) z.1 z.2.1 z.2.2⟩
theorem RU:RT.OK Tryz.prog:=qB hmix 68 Tryz.func95 rfl rfl (by decide) [(94,.c Fq),(143,.c Gs),(144,.c gcd_c),(153,.c Mk),(157,.c T3),(158,.c add_c)] (λ(neg:Bool)(n:Nat)(d:Nat) b hx hp=>jL (Ga (qk (Nat.le_max_left _ _) (Bnds.h3 hx).2.1.mag) (qk (Nat.le_max_right _ _) (Bnds.h3 hx).2.2.mag))) (λ(neg:Bool)(n:Nat)(d:Nat) hx hp=>by
 have hx1:qJ n 1099511627776:=hx.2.1;have hl1:(limbs n).length<=34359738369:=qv (q7h hx1);have hx2:qJ d 1099511627776:=hx.2.2;have hl2:(limbs d).length<=34359738369:=qv (q7h hx2)
 refine⟨.cond (.nil) (.cond (.nil) (.cond (.cond (.nil) ((λ(g:Nat)=> .cond (.cond (.cond (.h 12 3 (.rat (qm neg n d) 1099511627776) (.nil)) (.h 12 3 (.rat (qm neg n d) 1099511627776) (.nil))) (.h 12 3 (.rat (qm neg n d) 1099511627776) (.nil))) (.cond (.cond (.h 12 3 (.rat (qm neg n d) 1099511627776) (.nil)) (.h 12 3 (.rat (qm neg n d) 1099511627776) (.nil))) (.h 12 3 (.rat (qm neg n d) 1099511627776) (.nil)))) (Nat.gcd n d))) ((λ(g:Nat)=> .cond (.cond (.cond (.h 12 3 (.rat (qm neg n d) 1099511627776) (.nil)) (.h 12 3 (.rat (qm neg n d) 1099511627776) (.nil))) (.h 12 3 (.rat (qm neg n d) 1099511627776) (.nil))) (.cond (.cond (.h 12 3 (.rat (qm neg n d) 1099511627776) (.nil)) (.h 12 3 (.rat (qm neg n d) 1099511627776) (.nil))) (.h 12 3 (.rat (qm neg n d) 1099511627776) (.nil)))) (Nat.gcd n d)))),kcast (by kernel_rfl) (q6q (λ(h1:bl n=0)=>(by first|rw[AK.1 (show bl n=0 by omega),DS]|rw[AK.1 (show bl d=0 by omega),Df]:0=qm neg n d)) (λ(h2: ¬(bl n=0))=>q6q (λ(h3:bl d=0)=>(by first|rw[AK.1 (show bl n=0 by omega),DS]|rw[AK.1 (show bl d=0 by omega),Df]:0=qm neg n d)) (λ(h4: ¬(bl d=0))=>have hn0:=(show 0<n from q7z (mt AK.2 (by omega)));have hd0:=(show 0<d from q7z (mt AK.2 (by omega)));q6q (λ(h5:(limbs n).length<=2)=>q6q (λ(h6:(limbs d).length<=2)=>I (by omega:(limbs n).length<=2) (I (by omega:(limbs d).length<=2) (I (by omega:0<d) ((Eq.refl (qm neg n d)))))) (λ(h7: ¬((limbs d).length<=2))=>(λ(g:Nat)(hg:g=Nat.gcd n d)=>have hg0:=(show 0<g from hg▸Nat.gcd_pos_of_pos_right _ hd0);q6q (λ(h8:1<bl g)=>I (by omega:0<g) (I (by omega:0<g) (q6q (λ(h9:(limbs ((d/g)+0)).length=1)=>I (by omega:0<(limbs ((d/g)+0)).length) (q6q (λ(h10:(limbs ((d/g)+0)).getD 0 0=1)=>I ((jU hn0 hd0).symm:neg=decide ((qm neg n d).num<0)) (I (by rw[jF hd0,<-hg];first|rfl|rw[hg1,q7d];rfl:(n/g)+0=(qm neg n d).num.natAbs) (I (by rw[(jp hd0).2,<-hg];first|exact zA (by omega) (by omega)|(rw[hg1,q7d];exact zA (by omega) (by omega)):(qm neg n d).den=1) (I ((qT (p:=1099511627776) (qk (by decide) hx1) (qX (qk (by decide) hx2)) hd0).1:qJ (qm neg n d).num.natAbs 1099511627776) (I ((qT (p:=1099511627776) (qk (by decide) hx1) (qX (qk (by decide) hx2)) hd0).2:le2 (qm neg n d).den 1099511627776) ((Eq.refl (qm neg n d)))))))) (λ(h11: ¬((limbs ((d/g)+0)).getD 0 0=1))=>I ((jU hn0 hd0).symm:neg=decide ((qm neg n d).num<0)) (I (by rw[jF hd0,<-hg];first|rfl|rw[hg1,q7d];rfl:(n/g)+0=(qm neg n d).num.natAbs) (I (zq (by rw[(jp hd0).2,<-hg];first|rfl|rw[hg1,q7d];rfl) (by omega):limbs ((d/g)+0)=denL (qm neg n d).den) (I ((qT (p:=1099511627776) (qk (by decide) hx1) (qX (qk (by decide) hx2)) hd0).1:qJ (qm neg n d).num.natAbs 1099511627776) (I ((qT (p:=1099511627776) (qk (by decide) hx1) (qX (qk (by decide) hx2)) hd0).2:le2 (qm neg n d).den 1099511627776) ((Eq.refl (qm neg n d)))))))))) (λ(h12: ¬((limbs ((d/g)+0)).length=1))=>I ((jU hn0 hd0).symm:neg=decide ((qm neg n d).num<0)) (I (by rw[jF hd0,<-hg];first|rfl|rw[hg1,q7d];rfl:(n/g)+0=(qm neg n d).num.natAbs) (I (zq (by rw[(jp hd0).2,<-hg];first|rfl|rw[hg1,q7d];rfl) (by omega):limbs ((d/g)+0)=denL (qm neg n d).den) (I ((qT (p:=1099511627776) (qk (by decide) hx1) (qX (qk (by decide) hx2)) hd0).1:qJ (qm neg n d).num.natAbs 1099511627776) (I ((qT (p:=1099511627776) (qk (by decide) hx1) (qX (qk (by decide) hx2)) hd0).2:le2 (qm neg n d).den 1099511627776) ((Eq.refl (qm neg n d))))))))))) (λ(h13: ¬(1<bl g))=>have hg1:=(NT hg0 (by omega):g=1);q6q (λ(h14:(limbs (d+0)).length=1)=>I (by omega:0<(limbs (d+0)).length) (q6q (λ(h15:(limbs (d+0)).getD 0 0=1)=>I ((jU hn0 hd0).symm:neg=decide ((qm neg n d).num<0)) (I (by rw[jF hd0,<-hg];first|rfl|rw[hg1,q7d];rfl:n+0=(qm neg n d).num.natAbs) (I (by rw[(jp hd0).2,<-hg];first|exact zA (by omega) (by omega)|(rw[hg1,q7d];exact zA (by omega) (by omega)):(qm neg n d).den=1) (I ((qT (p:=1099511627776) (qk (by decide) hx1) (qX (qk (by decide) hx2)) hd0).1:qJ (qm neg n d).num.natAbs 1099511627776) (I ((qT (p:=1099511627776) (qk (by decide) hx1) (qX (qk (by decide) hx2)) hd0).2:le2 (qm neg n d).den 1099511627776) ((Eq.refl (qm neg n d)))))))) (λ(h16: ¬((limbs (d+0)).getD 0 0=1))=>I ((jU hn0 hd0).symm:neg=decide ((qm neg n d).num<0)) (I (by rw[jF hd0,<-hg];first|rfl|rw[hg1,q7d];rfl:n+0=(qm neg n d).num.natAbs) (I (zq (by rw[(jp hd0).2,<-hg];first|rfl|rw[hg1,q7d];rfl) (by omega):limbs (d+0)=denL (qm neg n d).den) (I ((qT (p:=1099511627776) (qk (by decide) hx1) (qX (qk (by decide) hx2)) hd0).1:qJ (qm neg n d).num.natAbs 1099511627776) (I ((qT (p:=1099511627776) (qk (by decide) hx1) (qX (qk (by decide) hx2)) hd0).2:le2 (qm neg n d).den 1099511627776) ((Eq.refl (qm neg n d)))))))))) (λ(h17: ¬((limbs (d+0)).length=1))=>I ((jU hn0 hd0).symm:neg=decide ((qm neg n d).num<0)) (I (by rw[jF hd0,<-hg];first|rfl|rw[hg1,q7d];rfl:n+0=(qm neg n d).num.natAbs) (I (zq (by rw[(jp hd0).2,<-hg];first|rfl|rw[hg1,q7d];rfl) (by omega):limbs (d+0)=denL (qm neg n d).den) (I ((qT (p:=1099511627776) (qk (by decide) hx1) (qX (qk (by decide) hx2)) hd0).1:qJ (qm neg n d).num.natAbs 1099511627776) (I ((qT (p:=1099511627776) (qk (by decide) hx1) (qX (qk (by decide) hx2)) hd0).2:le2 (qm neg n d).den 1099511627776) ((Eq.refl (qm neg n d)))))))))) (Nat.gcd n d) rfl)) (λ(h18: ¬((limbs n).length<=2))=>(λ(g:Nat)(hg:g=Nat.gcd n d)=>have hg0:=(show 0<g from hg▸Nat.gcd_pos_of_pos_right _ hd0);q6q (λ(h19:1<bl g)=>I (by omega:0<g) (I (by omega:0<g) (q6q (λ(h20:(limbs ((d/g)+0)).length=1)=>I (by omega:0<(limbs ((d/g)+0)).length) (q6q (λ(h21:(limbs ((d/g)+0)).getD 0 0=1)=>I ((jU hn0 hd0).symm:neg=decide ((qm neg n d).num<0)) (I (by rw[jF hd0,<-hg];first|rfl|rw[hg1,q7d];rfl:(n/g)+0=(qm neg n d).num.natAbs) (I (by rw[(jp hd0).2,<-hg];first|exact zA (by omega) (by omega)|(rw[hg1,q7d];exact zA (by omega) (by omega)):(qm neg n d).den=1) (I ((qT (p:=1099511627776) (qk (by decide) hx1) (qX (qk (by decide) hx2)) hd0).1:qJ (qm neg n d).num.natAbs 1099511627776) (I ((qT (p:=1099511627776) (qk (by decide) hx1) (qX (qk (by decide) hx2)) hd0).2:le2 (qm neg n d).den 1099511627776) ((Eq.refl (qm neg n d)))))))) (λ(h22: ¬((limbs ((d/g)+0)).getD 0 0=1))=>I ((jU hn0 hd0).symm:neg=decide ((qm neg n d).num<0)) (I (by rw[jF hd0,<-hg];first|rfl|rw[hg1,q7d];rfl:(n/g)+0=(qm neg n d).num.natAbs) (I (zq (by rw[(jp hd0).2,<-hg];first|rfl|rw[hg1,q7d];rfl) (by omega):limbs ((d/g)+0)=denL (qm neg n d).den) (I ((qT (p:=1099511627776) (qk (by decide) hx1) (qX (qk (by decide) hx2)) hd0).1:qJ (qm neg n d).num.natAbs 1099511627776) (I ((qT (p:=1099511627776) (qk (by decide) hx1) (qX (qk (by decide) hx2)) hd0).2:le2 (qm neg n d).den 1099511627776) ((Eq.refl (qm neg n d)))))))))) (λ(h23: ¬((limbs ((d/g)+0)).length=1))=>I ((jU hn0 hd0).symm:neg=decide ((qm neg n d).num<0)) (I (by rw[jF hd0,<-hg];first|rfl|rw[hg1,q7d];rfl:(n/g)+0=(qm neg n d).num.natAbs) (I (zq (by rw[(jp hd0).2,<-hg];first|rfl|rw[hg1,q7d];rfl) (by omega):limbs ((d/g)+0)=denL (qm neg n d).den) (I ((qT (p:=1099511627776) (qk (by decide) hx1) (qX (qk (by decide) hx2)) hd0).1:qJ (qm neg n d).num.natAbs 1099511627776) (I ((qT (p:=1099511627776) (qk (by decide) hx1) (qX (qk (by decide) hx2)) hd0).2:le2 (qm neg n d).den 1099511627776) ((Eq.refl (qm neg n d))))))))))) (λ(h24: ¬(1<bl g))=>have hg1:=(NT hg0 (by omega):g=1);q6q (λ(h25:(limbs (d+0)).length=1)=>I (by omega:0<(limbs (d+0)).length) (q6q (λ(h26:(limbs (d+0)).getD 0 0=1)=>I ((jU hn0 hd0).symm:neg=decide ((qm neg n d).num<0)) (I (by rw[jF hd0,<-hg];first|rfl|rw[hg1,q7d];rfl:n+0=(qm neg n d).num.natAbs) (I (by rw[(jp hd0).2,<-hg];first|exact zA (by omega) (by omega)|(rw[hg1,q7d];exact zA (by omega) (by omega)):(qm neg n d).den=1) (I ((qT (p:=1099511627776) (qk (by decide) hx1) (qX (qk (by decide) hx2)) hd0).1:qJ (qm neg n d).num.natAbs 1099511627776) (I ((qT (p:=1099511627776) (qk (by decide) hx1) (qX (qk (by decide) hx2)) hd0).2:le2 (qm neg n d).den 1099511627776) ((Eq.refl (qm neg n d)))))))) (λ(h27: ¬((limbs (d+0)).getD 0 0=1))=>I ((jU hn0 hd0).symm:neg=decide ((qm neg n d).num<0)) (I (by rw[jF hd0,<-hg];first|rfl|rw[hg1,q7d];rfl:n+0=(qm neg n d).num.natAbs) (I (zq (by rw[(jp hd0).2,<-hg];first|rfl|rw[hg1,q7d];rfl) (by omega):limbs (d+0)=denL (qm neg n d).den) (I ((qT (p:=1099511627776) (qk (by decide) hx1) (qX (qk (by decide) hx2)) hd0).1:qJ (qm neg n d).num.natAbs 1099511627776) (I ((qT (p:=1099511627776) (qk (by decide) hx1) (qX (qk (by decide) hx2)) hd0).2:le2 (qm neg n d).den 1099511627776) ((Eq.refl (qm neg n d)))))))))) (λ(h28: ¬((limbs (d+0)).length=1))=>I ((jU hn0 hd0).symm:neg=decide ((qm neg n d).num<0)) (I (by rw[jF hd0,<-hg];first|rfl|rw[hg1,q7d];rfl:n+0=(qm neg n d).num.natAbs) (I (zq (by rw[(jp hd0).2,<-hg];first|rfl|rw[hg1,q7d];rfl) (by omega):limbs (d+0)=denL (qm neg n d).den) (I ((qT (p:=1099511627776) (qk (by decide) hx1) (qX (qk (by decide) hx2)) hd0).1:qJ (qm neg n d).num.natAbs 1099511627776) (I ((qT (p:=1099511627776) (qk (by decide) hx1) (qX (qk (by decide) hx2)) hd0).2:le2 (qm neg n d).den 1099511627776) ((Eq.refl (qm neg n d)))))))))) (Nat.gcd n d) rfl))))⟩)
abbrev Cf:Ctr Tryz.prog:=FI.c RU
abbrev q4A:FI:=⟨90,[(.sl (.nat .u32)),(.sl (.nat .u32))],[(.s 1099511627776 (.n 4294967295)),(.s 1099511627776 (.n 4294967295))],λ_=>[],λb z=>(λ(l:List Nat)(m:List Nat)=> .c (.one (.dt .bool .u (decide (l=m))))) z.1 z.2⟩
theorem q4B:q4A.OK Tryz.prog:=qB hmix 26 Tryz.func90 rfl rfl (by decide) [] (λ(l:List Nat)(m:List Nat) b hx hp=>qa trivial rfl) (λ(l:List Nat)(m:List Nat) hx hp=>by
 have hl0:l.length<=1099511627776:=hx.1.1;have hl1:m.length<=1099511627776:=hx.2.1
 refine⟨.cond (.nil) (.loop [.s 13 (.nat .i64) (.n 1099511627776)] (λ(i:Nat)=>i<=l.length/\l.take i=m.take i) (λ(i:Nat)=>l.length-i) (λ(i:Nat)=> .nil)),kcast (by kernel_rfl) (Sp (l.length≠m.length) (λh1=>((decide_eq_false (by first|exact(HS (by omega) hC.2 (by omega)).2 (by omega)|exact λe=>absurd (congrArg List.length e) (by assumption))).symm:false=decide (l=m))) (λh2=>I (⟨q7G _,rfl⟩:0<=l.length/\l.take 0=m.take 0) (λ(i:Nat)(hb3:HB [.s 13 (.nat .i64) (.n 1099511627776)] i)(hC:i<=l.length/\l.take i=m.take i)=>have hv8:=(show i<=1099511627776 from hb3);Sp (i<l.length) (λh4=>I (?_:i<l.length) (I (?_:i<m.length) (Sp (l.getD i 0≠m.getD i 0) (λh5=>((decide_eq_false (by first|exact(HS (by omega) hC.2 (by omega)).2 (by omega)|exact λe=>absurd (congrArg List.length e) (by assumption))).symm:false=decide (l=m))) (λh6=>I (show(i+1)<=1099511627776 by omega:Bnd (.nat .i64) (.n 1099511627776) (i+1)) (q6q (⟨by omega,(HS (by omega) hC.2 (by omega)).1 (by omega)⟩:(i+1)<=l.length/\l.take (i+1)=m.take (i+1)) (?_:l.length-(i+1)<l.length-i)))))) (λh7=>((decide_eq_true (by have:=hC.2;rwa [q75 (by omega),q75 (by omega)]at this)).symm:true=decide (l=m))))))⟩<;>omega)
abbrev MM:Ctr Tryz.prog:=FI.c q4B
abbrev WU:FI:=⟨86,[.rat],[(.n 68719476736)],λ_=>[],λb z=>(λ(x:Rat)=> .c (.one (.dt (.int .i64) (.n 1) (jb x)))) z⟩
theorem WW:WU.OK Tryz.prog:=qB hmix 11 Tryz.func86 rfl rfl (by decide) [(143,.c Gs)] (λ(x:Rat) b hx hp=>qa (KU x) rfl) (λ(x:Rat) hx hp=>by
 refine⟨.nil,kcast (by kernel_rfl) (Sp (bl x.num.natAbs=0) (λh1=>(by rw[jb,if_pos (AK.1 (by omega))]:0=jb x)) (λh2=>Sp (x.num<0) (λh3=>(by rw[jb,if_neg (λe=>absurd (AK.2 e) (by omega)),if_pos (by assumption)]:(-1)=jb x)) (λh4=>(by rw[jb,if_neg (λe=>absurd (AK.2 e) (by omega)),if_neg (by assumption)]:1=jb x))))⟩)
abbrev If:Ctr Tryz.prog:=FI.c WW
abbrev q2m:FI:=⟨50,[(.int .i64)],[(.n 9223372036854775807)],λ_=>[],λb z=>(λ(v:Int)=> .c (.agg [.dt .rat (.n (Nat.log2 (b0 b).nb+1)) ((v:Rat))])) z⟩
theorem q2n:q2m.OK Tryz.prog:=qB hmix 9 Tryz.func50 rfl rfl (by decide) [(95,.c Cf),(97,.c Mj),(98,.c PG)] (λ(v:Int) b hx hp=>jL (Au (Bnds.h1 hx).int)) (λ(v:Int) hx hp=>by
 refine⟨.nil,kcast (by kernel_rfl) ((Mm v:qm (decide (v<0)) v.natAbs 1=(v:Rat)))⟩)
abbrev wQ:Ctr Tryz.prog:=FI.c q2n
abbrev q2t:FI:=⟨52,[.rat,.rat],[(.n 68719476736),(.n 68719476736)],λ_=>[],λb z=>(λ(x:Rat)(y:Rat)=> .c (.agg [.dt .rat (.n ((b0 b).nb+(b1 b).nb)) (x*y)])) z.1 z.2⟩
theorem q2u:q2t.OK Tryz.prog:=qB hmix 64 Tryz.func52 rfl rfl (by decide) [(89,.c Fg),(92,.c mul_c),(93,.c Eu),(94,.c Fq),(95,.c Cf)] (λ(x:Rat)(y:Rat) b hx hp=>jL (CT (Bnds.h2 hx).1 (Bnds.h2 hx).2)) (λ(x:Rat)(y:Rat) hx hp=>by
 refine⟨.nil,kcast (by kernel_rfl) (Sp ((limbs x.num.natAbs).length=0) (λh1=>(?_:0=x*y)) (λh2=>Sp ((limbs y.num.natAbs).length=0) (λh3=>(?_:0=x*y)) (λh4=>Sp (pb x=true) (λh5=>Sp (pb y=true) (λh6=>have hpx:=CG (x:=x) (by assumption);have hpy:=CG (x:=y) (by assumption);I (q7y hpx.2.2 hpy.2.2:0<(pd x)*(pd y)) ((?_:qm (decide ((decide (x.num<0))≠(decide (y.num<0)))) ((pn x)*(pn y)) ((pd x)*(pd y))=x*y))) (λh7=>(?_:qm (decide ((decide (x.num<0))≠(decide (y.num<0)))) (x.num.natAbs*y.num.natAbs) (x.den*y.den)=x*y))) (λh8=>(?_:qm (decide ((decide (x.num<0))≠(decide (y.num<0)))) (x.num.natAbs*y.num.natAbs) (x.den*y.den)=x*y)))))⟩<;>first|(first|rw[wP (nl0.1 (show(limbs x.num.natAbs).length=0 by omega)),Rat.zero_mul]|rw[wP (nl0.1 (show(limbs y.num.natAbs).length=0 by omega)),Rat.mul_zero])|(first|exact Fj x y|(rw[hpx.1,hpy.1,hpx.2.1,hpy.2.1];exact Fj x y)))
abbrev j8:Ctr Tryz.prog:=FI.c q2u
def SJ:Array Value->Sem Value:=λargs=>do
 let(x,y,c)<-Extern.MathBitsCarry.three "Add64" args
 pure (Extern.MathBitsCarry.pair ((x+y+c)%Extern.MathBitsCarry.m64) ((x+y+c)/Extern.MathBitsCarry.m64))
theorem QJ:Extern.findNext Tryz.f159=none:=by kernel_rfl
theorem V2:Extern.find Tryz.f159=some SJ:=by kernel_rfl
theorem PH(a b:Nat)(w:World):(SJ #[.int .u64 (a:Int),.int .u64 (b:Int),.int .u64 0]).run Tryz.prog w= .ok (Extern.MathBitsCarry.pair ((a+b)%18446744073709551616) ((a+b)/18446744073709551616)) w:=by
 kernel_rfl
theorem Ru{fx x y z:Operand}{ts:Array TypeId}{ty:TypeId}{a b:Nat}:
  OpOk Tryz.prog (.call {callee:= .value fx,args:= #[x,y,z],argTypes:=ts}) ty [(fx,vFun 159),(x,qu .u64 a),(y,qu .u64 b),(z,qu .u64 0)] []
   (.tup [.one (.val (.int .u64 (((a+b)%18446744073709551616:Nat):Int))),.one (.val (.int .u64 (((a+b)/18446744073709551616:Nat):Int)))]) []:=
 qQ λac w H β hins _ _=>by
  have hf:=(hins (fx,vFun 159) (by simp)).1;have hx:=(hins (x,qu .u64 a) (by simp)).1;have hy:=(hins (y,qu .u64 b) (by simp)).1;have hz:=(hins (z,qu .u64 0) (by simp)).1;simp only at hf hx hy hz;refine⟨Extern.MathBitsCarry.pair ((a+b)%18446744073709551616) ((a+b)/18446744073709551616),?_,λ_ _ _ _=>?_⟩
  .exact⟨_,rfl,⟨⟨rfl,rfl⟩,⟨⟨rfl,rfl⟩,trivial⟩⟩⟩
  .have hb: Tryz.f159.body.isNone=true:=by kernel_rfl
   have hn:(Tryz.f159.name== "runtime.NumGoroutine")=false:=by kernel_rfl
   simp only[execOp,resolve,hf,Deferred.ofValue,q7N,q7O,q7M,invoke,callFunc,run_program,Tryz.func159,hb,hn,q6t,if_false,if_true,QJ,V2];rw[show(#[]++Array.map ac.eval #[x,y,z]++ #[]:Array Value)= #[.int .u64 (a:Int),.int .u64 (b:Int),.int .u64 0] by simp[hx,hy,hz]];rw[show Sem.run Tryz.prog (mark (Mark.extern 159)) w= .ok () w from rfl];simp only[q7M,PH]
abbrev q2d:FI:=⟨96,[.rat,.rat,.bool],[(.n 68719476736),(.n 68719476736),.u],λ_=>[],λb z=>(λ(x:Rat)(y:Rat)(s:Bool)=> .c (.agg [.dt .rat (.n ((b0 b).nb+(b1 b).nb+1)) (x+yQ s y)])) z.1 z.2.1 z.2.2⟩
theorem q2e:q2d.OK Tryz.prog:=qB hmix 152 Tryz.func96 rfl rfl (by decide) [(89,.c Fg),(90,.c MM),(92,.c mul_c),(93,.c Eu),(94,.c Fq),(95,.c Cf),(158,.c add_c),(160,.c q61)] (λ(x:Rat)(y:Rat)(s:Bool) b hx hp=>jL (HK (Bnds.h3 hx).1 (Bnds.h3 hx).2.1)) (λ(x:Rat)(y:Rat)(s:Bool) hx hp=>by
 refine⟨.cond (.cond (.h 6 2 (.any [.c (.one (.vl (.func (.func 159) #[] #[]))),.c (.one (.dt (.nat .u64) (.n 18446744065119617025) ((pn x)*(pd y)))),.c (.one (.dt (.nat .u64) (.n 18446744065119617025) ((pn y)*(pd x)))),.c (.one (.kn .u64 0))] (.tup [(.one (.dt (.nat .u64) (.n 18446744073709551615) ((((pn x)*(pd y))+((pn y)*(pd x)))%18446744073709551616))),(.one (.dt (.nat .u64) (.n 1) (cy ((pn x)*(pd y)) ((pn y)*(pd x)))))]) (qc (qa (q7i (q7q _ (by decide))) rfl) (qc (qa (q4w (q7v (Hk x) (Hj y)) (q7v (Hk y) (Hj x))) rfl) qy)) (Op.call {callee:= .value (.func 159),args:= #[.tmp 43,.tmp 44,.const (.int .u64 0)],argTypes:= #[112,112,112]}) (λ_=>Ru (a:=(pn x)*(pd y)) (b:=(pn y)*(pd x)))) (.cond (.cond (.nil) (.cond (.cond (.h 10 4 (.i .sub) (.nil)) (.cond (.h 12 3 (.i .sub) (.nil)) (.nil))) (.cond (.h 12 3 (.i .sub) (.nil)) (.nil)))) (.cond (.cond (.h 10 4 (.i .sub) (.nil)) (.cond (.h 12 3 (.i .sub) (.nil)) (.nil))) (.cond (.h 12 3 (.i .sub) (.nil)) (.nil))))) (.nil)) (.nil),kcast (by kernel_rfl) (Sp (pb x=true) (λh1=>Sp (pb y=true) (λh2=>have hpx:=CG (x:=x) (by assumption);have hpy:=CG (x:=y) (by assumption);have hx8:=Hk x;have hx9:=Hj x;have hy8:=Hk y;have hy9:=Hj y;have hm1:=q7v hx8 hy9;have hm2:=q7v hy8 hx9;have hpp:=q7y hpx.2.2 hpy.2.2;I (rfl:([.c (.one (.vl (.func (.func 159) #[] #[]))),.c (.one (.dt (.nat .u64) (.n 18446744065119617025) ((pn x)*(pd y)))),.c (.one (.dt (.nat .u64) (.n 18446744065119617025) ((pn y)*(pd x)))),.c (.one (.kn .u64 0))]:List WV)=[.c (.one (.vl (.func (.func 159) #[] #[]))),.c (.one (.dt (.nat .u64) (.n 18446744065119617025) ((pn x)*(pd y)))),.c (.one (.dt (.nat .u64) (.n 18446744065119617025) ((pn y)*(pd x)))),.c (.one (.kn .u64 0))]) (I (rfl:(Op.call {callee:= .value (.func 159),args:= #[.tmp 43,.tmp 44,.const (.int .u64 0)],argTypes:= #[112,112,112]}:Op)=Op.call {callee:= .value (.func 159),args:= #[.tmp 43,.tmp 44,.const (.int .u64 0)],argTypes:= #[112,112,112]}) (Sp ((decide (x.num<0))=s) (λh3=>Sp (cy ((pn x)*(pd y)) ((pn y)*(pd x))=0) (λh4=>I (hpp:0<(pd x)*(pd y)) ((?_:qm s ((((pn x)*(pd y))+((pn y)*(pd x)))%18446744073709551616) ((pd x)*(pd y))=x+yQ s y))) (λh5=>Sp ((decide (x.num<0))≠s) (λh6=>Sp ((pn y)*(pd x)<=(pn x)*(pd y)) (λh7=>I (by first|omega|contradiction:(pn y)*(pd x)<=(pn x)*(pd y)) (I (hpp:0<(pd x)*(pd y)) ((?_:qm (decide (x.num<0)) (((pn x)*(pd y)) -((pn y)*(pd x))) ((pd x)*(pd y))=x+yQ s y)))) (λh8=>Sp ((decide (x.num<0))≠s) (λh9=>I (by first|omega|contradiction:(pn x)*(pd y)<=(pn y)*(pd x)) (I (hpp:0<(pd x)*(pd y)) ((?_:qm s (((pn y)*(pd x)) -((pn x)*(pd y))) ((pd x)*(pd y))=x+yQ s y)))) (λh10=>Sp ((!(decide ((denL x.den)=(denL y.den))))=true) (λh11=>Sp ((decide (x.num<0))=s) (λh12=>(?_:qm s ((x.num.natAbs*y.den)+(y.num.natAbs*x.den)) (x.den*y.den)=x+yQ s y)) (λh13=>Sp (subC (x.num.natAbs*y.den) (y.num.natAbs*x.den)=0) (λh14=>(?_:qm (decide (x.num<0)) ((x.num.natAbs*y.den) -(y.num.natAbs*x.den)) (x.den*y.den)=x+yQ s y)) (λh15=>(?_:qm s ((y.num.natAbs*x.den) -(x.num.natAbs*y.den)) (x.den*y.den)=x+yQ s y)))) (λh16=>have hde:=(show x.den=y.den from wm x.den_nz y.den_nz (by have h:=h16;simpa using h));Sp ((decide (x.num<0))=s) (λh17=>(?_:qm s (x.num.natAbs+y.num.natAbs) x.den=x+yQ s y)) (λh18=>Sp (subC x.num.natAbs y.num.natAbs=0) (λh19=>(?_:qm (decide (x.num<0)) (x.num.natAbs-y.num.natAbs) x.den=x+yQ s y)) (λh20=>(?_:qm s (y.num.natAbs-x.num.natAbs) x.den=x+yQ s y))))))) (λh21=>Sp ((decide (x.num<0))≠s) (λh22=>I (by first|omega|contradiction:(pn x)*(pd y)<=(pn y)*(pd x)) (I (hpp:0<(pd x)*(pd y)) ((?_:qm s (((pn y)*(pd x)) -((pn x)*(pd y))) ((pd x)*(pd y))=x+yQ s y)))) (λh23=>Sp ((!(decide ((denL x.den)=(denL y.den))))=true) (λh24=>Sp ((decide (x.num<0))=s) (λh25=>(?_:qm s ((x.num.natAbs*y.den)+(y.num.natAbs*x.den)) (x.den*y.den)=x+yQ s y)) (λh26=>Sp (subC (x.num.natAbs*y.den) (y.num.natAbs*x.den)=0) (λh27=>(?_:qm (decide (x.num<0)) ((x.num.natAbs*y.den) -(y.num.natAbs*x.den)) (x.den*y.den)=x+yQ s y)) (λh28=>(?_:qm s ((y.num.natAbs*x.den) -(x.num.natAbs*y.den)) (x.den*y.den)=x+yQ s y)))) (λh29=>have hde:=(show x.den=y.den from wm x.den_nz y.den_nz (by have h:=h29;simpa using h));Sp ((decide (x.num<0))=s) (λh30=>(?_:qm s (x.num.natAbs+y.num.natAbs) x.den=x+yQ s y)) (λh31=>Sp (subC x.num.natAbs y.num.natAbs=0) (λh32=>(?_:qm (decide (x.num<0)) (x.num.natAbs-y.num.natAbs) x.den=x+yQ s y)) (λh33=>(?_:qm s (y.num.natAbs-x.num.natAbs) x.den=x+yQ s y)))))))) (λh34=>Sp ((decide (x.num<0))≠s) (λh35=>Sp ((pn y)*(pd x)<=(pn x)*(pd y)) (λh36=>I (by first|omega|contradiction:(pn y)*(pd x)<=(pn x)*(pd y)) (I (hpp:0<(pd x)*(pd y)) ((?_:qm (decide (x.num<0)) (((pn x)*(pd y)) -((pn y)*(pd x))) ((pd x)*(pd y))=x+yQ s y)))) (λh37=>Sp ((decide (x.num<0))≠s) (λh38=>I (by first|omega|contradiction:(pn x)*(pd y)<=(pn y)*(pd x)) (I (hpp:0<(pd x)*(pd y)) ((?_:qm s (((pn y)*(pd x)) -((pn x)*(pd y))) ((pd x)*(pd y))=x+yQ s y)))) (λh39=>Sp ((!(decide ((denL x.den)=(denL y.den))))=true) (λh40=>Sp ((decide (x.num<0))=s) (λh41=>(?_:qm s ((x.num.natAbs*y.den)+(y.num.natAbs*x.den)) (x.den*y.den)=x+yQ s y)) (λh42=>Sp (subC (x.num.natAbs*y.den) (y.num.natAbs*x.den)=0) (λh43=>(?_:qm (decide (x.num<0)) ((x.num.natAbs*y.den) -(y.num.natAbs*x.den)) (x.den*y.den)=x+yQ s y)) (λh44=>(?_:qm s ((y.num.natAbs*x.den) -(x.num.natAbs*y.den)) (x.den*y.den)=x+yQ s y)))) (λh45=>have hde:=(show x.den=y.den from wm x.den_nz y.den_nz (by have h:=h45;simpa using h));Sp ((decide (x.num<0))=s) (λh46=>(?_:qm s (x.num.natAbs+y.num.natAbs) x.den=x+yQ s y)) (λh47=>Sp (subC x.num.natAbs y.num.natAbs=0) (λh48=>(?_:qm (decide (x.num<0)) (x.num.natAbs-y.num.natAbs) x.den=x+yQ s y)) (λh49=>(?_:qm s (y.num.natAbs-x.num.natAbs) x.den=x+yQ s y))))))) (λh50=>Sp ((decide (x.num<0))≠s) (λh51=>I (by first|omega|contradiction:(pn x)*(pd y)<=(pn y)*(pd x)) (I (hpp:0<(pd x)*(pd y)) ((?_:qm s (((pn y)*(pd x)) -((pn x)*(pd y))) ((pd x)*(pd y))=x+yQ s y)))) (λh52=>Sp ((!(decide ((denL x.den)=(denL y.den))))=true) (λh53=>Sp ((decide (x.num<0))=s) (λh54=>(?_:qm s ((x.num.natAbs*y.den)+(y.num.natAbs*x.den)) (x.den*y.den)=x+yQ s y)) (λh55=>Sp (subC (x.num.natAbs*y.den) (y.num.natAbs*x.den)=0) (λh56=>(?_:qm (decide (x.num<0)) ((x.num.natAbs*y.den) -(y.num.natAbs*x.den)) (x.den*y.den)=x+yQ s y)) (λh57=>(?_:qm s ((y.num.natAbs*x.den) -(x.num.natAbs*y.den)) (x.den*y.den)=x+yQ s y)))) (λh58=>have hde:=(show x.den=y.den from wm x.den_nz y.den_nz (by have h:=h58;simpa using h));Sp ((decide (x.num<0))=s) (λh59=>(?_:qm s (x.num.natAbs+y.num.natAbs) x.den=x+yQ s y)) (λh60=>Sp (subC x.num.natAbs y.num.natAbs=0) (λh61=>(?_:qm (decide (x.num<0)) (x.num.natAbs-y.num.natAbs) x.den=x+yQ s y)) (λh62=>(?_:qm s (y.num.natAbs-x.num.natAbs) x.den=x+yQ s y)))))))))) (λh63=>Sp ((!(decide ((denL x.den)=(denL y.den))))=true) (λh64=>Sp ((decide (x.num<0))=s) (λh65=>(?_:qm s ((x.num.natAbs*y.den)+(y.num.natAbs*x.den)) (x.den*y.den)=x+yQ s y)) (λh66=>Sp (subC (x.num.natAbs*y.den) (y.num.natAbs*x.den)=0) (λh67=>(?_:qm (decide (x.num<0)) ((x.num.natAbs*y.den) -(y.num.natAbs*x.den)) (x.den*y.den)=x+yQ s y)) (λh68=>(?_:qm s ((y.num.natAbs*x.den) -(x.num.natAbs*y.den)) (x.den*y.den)=x+yQ s y)))) (λh69=>have hde:=(show x.den=y.den from wm x.den_nz y.den_nz (by have h:=h69;simpa using h));Sp ((decide (x.num<0))=s) (λh70=>(?_:qm s (x.num.natAbs+y.num.natAbs) x.den=x+yQ s y)) (λh71=>Sp (subC x.num.natAbs y.num.natAbs=0) (λh72=>(?_:qm (decide (x.num<0)) (x.num.natAbs-y.num.natAbs) x.den=x+yQ s y)) (λh73=>(?_:qm s (y.num.natAbs-x.num.natAbs) x.den=x+yQ s y)))))) (λh74=>Sp ((!(decide ((denL x.den)=(denL y.den))))=true) (λh75=>Sp ((decide (x.num<0))=s) (λh76=>(?_:qm s ((x.num.natAbs*y.den)+(y.num.natAbs*x.den)) (x.den*y.den)=x+yQ s y)) (λh77=>Sp (subC (x.num.natAbs*y.den) (y.num.natAbs*x.den)=0) (λh78=>(?_:qm (decide (x.num<0)) ((x.num.natAbs*y.den) -(y.num.natAbs*x.den)) (x.den*y.den)=x+yQ s y)) (λh79=>(?_:qm s ((y.num.natAbs*x.den) -(x.num.natAbs*y.den)) (x.den*y.den)=x+yQ s y)))) (λh80=>have hde:=(show x.den=y.den from wm x.den_nz y.den_nz (by have h:=h80;simpa using h));Sp ((decide (x.num<0))=s) (λh81=>(?_:qm s (x.num.natAbs+y.num.natAbs) x.den=x+yQ s y)) (λh82=>Sp (subC x.num.natAbs y.num.natAbs=0) (λh83=>(?_:qm (decide (x.num<0)) (x.num.natAbs-y.num.natAbs) x.den=x+yQ s y)) (λh84=>(?_:qm s (y.num.natAbs-x.num.natAbs) x.den=x+yQ s y))))))⟩<;>first|(first|contradiction|skip;rw[hpx.1,hpx.2.1,hpy.1,hpy.2.1]at*;first|(rw[q0z (by assumption)];exact BZ (by assumption))|exact BX (by assumption) (by assumption)|exact BY (by assumption) (by omega))|(first|contradiction|exact TO hde (by assumption)|exact TM hde (by assumption) (Hy.1 (by assumption))|exact TN hde (by assumption) (q7h (Nat.lt_of_not_le (mt Hy.2 (by assumption))))|exact BZ (by assumption)|exact BX (by assumption) (Hy.1 (by assumption))|exact BY (by assumption) (q7h (Nat.lt_of_not_le (mt Hy.2 (by assumption))))))
abbrev Pu:Ctr Tryz.prog:=FI.c q2e
abbrev Wz:FI:=⟨51,[.rat,.rat],[(.n 68719476736),(.n 68719476736)],λ_=>[],λb z=>(λ(x:Rat)(y:Rat)=> .c (.agg [.dt .rat (.n ((b0 b).nb+(b1 b).nb+1)) (x+y)])) z.1 z.2⟩
theorem WD:Wz.OK Tryz.prog:=qB hmix 10 Tryz.func51 rfl rfl (by decide) [(96,.c Pu)] (λ(x:Rat)(y:Rat) b hx hp=>jL (FK (Bnds.h2 hx).1 (Bnds.h2 hx).2)) (λ(x:Rat)(y:Rat) hx hp=>by
 refine⟨.nil,kcast (by kernel_rfl) ((by rw[Dj]:x+yQ (decide (y.num<0)) y=x+y))⟩)
abbrev qA:Ctr Tryz.prog:=FI.c WD
abbrev q2C:FI:=⟨49,[.rat,.rat],[(.n 68719476736),(.n 68719476736)],λ_=>[],λb z=>(λ(x:Rat)(y:Rat)=> .c (.agg [.dt .rat (.n ((b0 b).nb+(b1 b).nb+1)) (x-y)])) z.1 z.2⟩
theorem q2D:q2C.OK Tryz.prog:=qB hmix 11 Tryz.func49 rfl rfl (by decide) [(96,.c Pu)] (λ(x:Rat)(y:Rat) b hx hp=>jL (Cg (Bnds.h2 hx).1 (Bnds.h2 hx).2)) (λ(x:Rat)(y:Rat) hx hp=>by
 refine⟨.nil,kcast (by kernel_rfl) ((by rw[show decide (¬(y.num<0))=!decide (y.num<0)from decide_not,Qf,Rat.sub_eq_add_neg]:x+yQ (decide (¬(y.num<0))) y=x-y))⟩)
abbrev vt:Ctr Tryz.prog:=FI.c q2D
abbrev Py:FI:=⟨62,[.rat],[(.n 1099511627776)],λ_=>[],λb z=>(λ(x:Rat)=> .c (.agg [.dt .rat (b0 b) x])) z⟩
theorem Pz:Py.OK Tryz.prog:=qB hmix 12 Tryz.func62 rfl rfl (by decide) [(71,.c Ds)] (λ(x:Rat) b hx hp=>jL (Bnds.h1 hx)) (λ(x:Rat) hx hp=>by
 have hx0:Bnd .rat (.n 1099511627776) x:=hx
 refine⟨.h 1 7 (.c C3) (.h 1 8 (.rat x 1099511627776) (.nil)),kcast (by kernel_rfl) (I (Eq.refl (decide (x.num<0))) (I (Eq.refl x.num.natAbs) (I (Eq.refl (denL x.den)) (I (hx0.1:qJ x.num.natAbs 1099511627776) (I (hx0.2:le2 x.den 1099511627776) ((Eq.refl x)))))))⟩)
abbrev IV:Ctr Tryz.prog:=FI.c Pz
abbrev WK:FI:=⟨88,[.rat],[(.n 68719476736)],λ_=>[],λb z=>(λ(x:Rat)=> .c (.one (.dt (.int .i64) (.n ((b0 b).nb+((b0 b).nb+1))) (max ((bl x.num.natAbs:Nat):Int) ((bl x.den:Nat):Int))))) z⟩
theorem WL:WK.OK Tryz.prog:=qB hmix 10 Tryz.func88 rfl rfl (by decide) [(93,.c Eu),(143,.c Gs)] (λ(x:Rat) b hx hp=>qa (Px (Bnds.h1 hx)) rfl) (λ(x:Rat) hx hp=>by
 refine⟨.nil,kcast (by kernel_rfl) ((Eq.refl (max ((bl x.num.natAbs:Nat):Int) ((bl x.den:Nat):Int))))⟩)
abbrev WJ:Ctr Tryz.prog:=FI.c WL
abbrev q2A:FI:=⟨48,[.rat,.rat],[(.n 68719476736),(.n 68719476736)],λ_=>[],λb z=>(λ(x:Rat)(y:Rat)=> .tup [.agg [.dt .rat (.n ((b0 b).nb+(b1 b).nb)) (x/y)],.one (.dt (.int .i64) (.n 3) (quoC y))]) z.1 z.2⟩
theorem q2B:q2A.OK Tryz.prog:=qB hmix 58 Tryz.func48 rfl rfl (by decide) [(86,.c If),(89,.c Fg),(92,.c mul_c),(93,.c Eu),(94,.c Fq),(95,.c Cf)] (λ(x:Rat)(y:Rat) b hx hp=>qc (jL (BR (Bnds.h2 hx).1 (Bnds.h2 hx).2)) (qc (qa (Pt y) rfl) qy)) (λ(x:Rat)(y:Rat) hx hp=>by
 refine⟨.nil,kcast (by kernel_rfl) (Sp (jb y=0) (λh1=>q6q (Tx (KT.1 (by assumption)):0=x/y) ((if_pos (KT.1 (by assumption))).symm:3=quoC y)) (λh2=>have hy0:=mt KT.2 (by assumption);Sp (pb x=true) (λh3=>Sp (pb y=true) (λh4=>have hpx:=CG (x:=x) (by assumption);have hpy:=CG (x:=y) (by assumption);I (q7y hpx.2.2 (hpy.1▸q7z hy0):0<(pd x)*(pn y)) (q6q (?_:qm (decide ((decide (x.num<0))≠(decide (y.num<0)))) ((pn x)*(pd y)) ((pd x)*(pn y))=x/y) ((if_neg hy0).symm:0=quoC y))) (λh5=>q6q (?_:qm (decide ((decide (x.num<0))≠(decide (y.num<0)))) (x.num.natAbs*y.den) (x.den*y.num.natAbs)=x/y) ((if_neg hy0).symm:0=quoC y))) (λh6=>q6q (?_:qm (decide ((decide (x.num<0))≠(decide (y.num<0)))) (x.num.natAbs*y.den) (x.den*y.num.natAbs)=x/y) ((if_neg hy0).symm:0=quoC y))))⟩<;>first|(first|exact Es hy0|(rw[hpx.1,hpy.1,hpx.2.1,hpy.2.1];exact Es hy0)))
abbrev wR:Ctr Tryz.prog:=FI.c q2B
abbrev q2f:FI:=⟨47,[.rat,.rat],[(.n 68719476736),(.n 68719476736)],λ_=>[],λb z=>(λ(x:Rat)(y:Rat)=> .c (.one (.dt (.int .i64) (.n 1) (j5 x y)))) z.1 z.2⟩
theorem q2g:q2f.OK Tryz.prog:=qB hmix 80 Tryz.func47 rfl rfl (by decide) [(86,.c If),(89,.c Fg),(90,.c MM),(91,.c ML),(92,.c mul_c),(93,.c Eu)] (λ(x:Rat)(y:Rat) b hx hp=>qa (K4 x y) rfl) (λ(x:Rat)(y:Rat) hx hp=>by
 refine⟨.nil,kcast (by kernel_rfl) (Sp (jb x≠jb y) (λh1=>Sp (jb x<jb y) (λh2=>(?_:(-1)=j5 x y)) (λh3=>(?_:1=j5 x y))) (λh4=>have hs:=(show jb x=jb y by omega);Sp (decide ((denL x.den)=(denL y.den))=true) (λh5=>have hde:=(show x.den=y.den from wm x.den_nz y.den_nz (by have h:=h5;simpa using h));Sp (x.num<0) (λh6=>(?_: -(qZ x.num.natAbs y.num.natAbs)=j5 x y)) (λh7=>(?_:qZ x.num.natAbs y.num.natAbs=j5 x y))) (λh8=>Sp (pb x=true) (λh9=>Sp (pb y=true) (λh10=>have hpx:=CG (x:=x) (by assumption);have hpy:=CG (x:=y) (by assumption);Sp ((pn x)*(pd y)<(pn y)*(pd x)) (λh11=>Sp (x.num<0) (λh12=>(?_:1=j5 x y)) (λh13=>(?_:(-1)=j5 x y))) (λh14=>Sp ((pn y)*(pd x)<(pn x)*(pd y)) (λh15=>Sp (x.num<0) (λh16=>(?_:(-1)=j5 x y)) (λh17=>(?_:1=j5 x y))) (λh18=>Sp (x.num<0) (λh19=>(?_:0=j5 x y)) (λh20=>(?_:0=j5 x y))))) (λh21=>Sp (x.num<0) (λh22=>(?_: -(qZ (x.num.natAbs*y.den) (y.num.natAbs*x.den))=j5 x y)) (λh23=>(?_:qZ (x.num.natAbs*y.den) (y.num.natAbs*x.den)=j5 x y)))) (λh24=>Sp (x.num<0) (λh25=>(?_: -(qZ (x.num.natAbs*y.den) (y.num.natAbs*x.den))=j5 x y)) (λh26=>(?_:qZ (x.num.natAbs*y.den) (y.num.natAbs*x.den)=j5 x y))))))⟩<;>first|(first|exact((ER (by assumption)).1 (by assumption)).symm|exact((ER (by assumption)).2 (by assumption)).symm|(rw[LM hs (by assumption)];first|exact Du hde|exact congrArg Neg.neg (Du hde)|rfl|(rw[Oc hpx hpy];unfold qZ;split<;>(try split)<;>first|rfl|omega))|(rw[LN hs (by assumption)];first|exact Du hde|exact congrArg Neg.neg (Du hde)|rfl|(rw[Oc hpx hpy];unfold qZ;split<;>(try split)<;>first|rfl|omega))))
abbrev jQ:Ctr Tryz.prog:=FI.c q2g
abbrev WS:FI:=⟨146,[.rat,.rat],[(.n 1099511627776),(.n 1099511627776)],λ_=>[],λb z=>(λ(x:Rat)(y:Rat)=> .c (.one (.dt .bool .u (decide (x=y))))) z.1 z.2⟩
theorem WT:WS.OK Tryz.prog:=qB hmix 24 Tryz.func146 rfl rfl (by decide) [(90,.c MM)] (λ(x:Rat)(y:Rat) b hx hp=>qa trivial rfl) (λ(x:Rat)(y:Rat) hx hp=>by
 refine⟨.nil,kcast (by kernel_rfl) (Sp ((decide (x.num<0))=(decide (y.num<0))) (λh1=>Sp (decide ((limbs x.num.natAbs)=(limbs y.num.natAbs))=true) (λh2=>(?_:decide ((denL x.den)=(denL y.den))=decide (x=y))) (λh3=>(?_:false=decide (x=y)))) (λh4=>(?_:false=decide (x=y))))⟩<;>first|(first|exact q5O (by assumption)|exact q5P (by assumption)|exact q5Q (by assumption) (by assumption)))
abbrev AA:Ctr Tryz.prog:=FI.c WT
abbrev q2r:FI:=⟨213,[.rat,.rat],[(.n 68719476736),(.n 68719476736)],λ_=>[],λb z=>(λ(x:Rat)(y:Rat)=> .c (.agg [.dt .rat (.n (max (b0 b).nb (b1 b).nb)) (minQ x y)])) z.1 z.2⟩
theorem q2s:q2r.OK Tryz.prog:=qB hmix 12 Tryz.func213 rfl rfl (by decide) [(47,.c jQ),(62,.c IV)] (λ(x:Rat)(y:Rat) b hx hp=>jL (Kx (Bnds.h2 hx).1 (Bnds.h2 hx).2)) (λ(x:Rat)(y:Rat) hx hp=>by
 refine⟨.nil,kcast (by kernel_rfl) (Sp (j5 y x<0) (λh1=>(?_:y=minQ x y)) (λh2=>(?_:x=minQ x y)))⟩<;>first|(first|exact(if_pos (by assumption)).symm|exact(if_neg (by assumption)).symm))
abbrev q2q:Ctr Tryz.prog:=FI.c q2s
abbrev q2o:FI:=⟨33,[.rat,.rat],[(.n 68719476736),(.n 68719476736)],λ_=>[],λb z=>(λ(x:Rat)(y:Rat)=> .c (.agg [.dt .rat (.n (max (b0 b).nb (b1 b).nb)) (maxQ x y)])) z.1 z.2⟩
theorem q2p:q2o.OK Tryz.prog:=qB hmix 12 Tryz.func33 rfl rfl (by decide) [(47,.c jQ),(62,.c IV)] (λ(x:Rat)(y:Rat) b hx hp=>jL (Kv (Bnds.h2 hx).1 (Bnds.h2 hx).2)) (λ(x:Rat)(y:Rat) hx hp=>by
 refine⟨.nil,kcast (by kernel_rfl) (Sp (0<j5 y x) (λh1=>(?_:y=maxQ x y)) (λh2=>(?_:x=maxQ x y)))⟩<;>first|(first|exact(if_pos (by assumption)).symm|exact(if_neg (by assumption)).symm))
abbrev Hr:Ctr Tryz.prog:=FI.c q2p
abbrev XN:FO:=⟨73,[(.sl (.nat .u32))],[(.s 1099511627776 (.n 4294967295))],λz=>(λ(ls:List Nat)=>[∀u∈ls,u<4294967296]) z,λk b z=>(λ(ls:List Nat)=> .c (.one (.gs k ((limbs (qe ls)).length) 1 ((b0 b).len)))) z,λb z=>(λ(ls:List Nat)=> .gro (.nat .u32) (.n 4294967295) (limbs (qe ls))) z⟩
theorem XO:XN.OK Tryz.prog:=mkO hmix 23 22 Tryz.func73 rfl rfl (by decide) [] (λ_=>rfl) (λ_ _ _=>rfl) (λ_ _=>rfl) (λ_ _ _=>⟨rfl,rfl⟩) (λ(ls:List Nat) k b hx hp=>⟨qa (q7k (I5 (hp _ q6W)) (Bnds.h1 hx).sl.1) rfl,λu hu=>q7i (jo _ u hu)⟩) (λ(ls:List Nat) hx hp=>by
 have hl0:ls.length<=1099511627776:=hx.1;have hp0: ∀u∈ls,u<4294967296:=hp _ (q6W)
 refine bodyO.g (.loop [.s 3 (.nat .i64) (.n 1099511627776)] (λ(k:Nat)=>k<=ls.length/\qe (ls.take k)=qe ls) (λ(k:Nat)=>k) (λ(k:Nat)=> .cond (.h 2 5 (.i .sub) (.cond (.h 3 1 (.i .sub) (.nil)) (.h 4 0 (.mk (.gro (.nat .u32) (.n 4294967295))) (.nil)))) (.h 4 0 (.mk (.gro (.nat .u32) (.n 4294967295))) (.nil)))) (kcast (by kernel_rfl) (I (⟨q7j _,by rw[q74]⟩:ls.length<=ls.length/\qe (ls.take ls.length)=qe ls) (λ(k:Nat)(hb1:HB [.s 3 (.nat .i64) (.n 1099511627776)] k)(hC:k<=ls.length/\qe (ls.take k)=qe ls)=>have hv6:=(show k<=1099511627776 from hb1);have hk:=hC.1;Sp (0<k) (λh2=>I (?_:1<=k) (I (?_:k-1<ls.length) (Sp (ls.getD (k-1) 0=0) (λh3=>I (?_:1<=k) (q6q (⟨by omega,EF hC.1 (by omega) hC.2 (by omega)⟩:k-1<=ls.length/\qe (ls.take (k-1))=qe ls) (?_:k-1<k))) (λh4=>I (?_:k<=ls.length) (I (rfl:0=([]:List Nat).length) (q6q ((q71 _).trans (wU hp0 hC.1 hC.2 (by omega)):([]:List Nat)++(ls.take k)=limbs (qe ls)) ((by rw[<-wU hp0 hC.1 hC.2 (by omega)];simp:0+(ls.take k).length=(limbs (qe ls)).length)))))))) (λh5=>I (?_:k<=ls.length) (I (rfl:0=([]:List Nat).length) (q6q ((q71 _).trans (wU hp0 hC.1 hC.2 (by omega)):([]:List Nat)++(ls.take k)=limbs (qe ls)) ((by rw[<-wU hp0 hC.1 hC.2 (by omega)];simp:0+(ls.take k).length=(limbs (qe ls)).length))))))))<;>omega)
abbrev XM(k:Nat)(b:List Bd)(ls:List Nat):WV:= .c (.one (.gs k ((limbs (qe ls)).length) 1 ((b0 b).len)))
abbrev XL(b:List Bd)(ls:List Nat):WB:= .gro (.nat .u32) (.n 4294967295) (limbs (qe ls))
theorem Qe(d:Nat)(ls:List Nat)(hx:Bnds [(.sl (.nat .u32))] [(.s 1099511627776 (.n 4294967295))] ls)(hp: ∀c0∈([∀u∈ls,u<4294967296]:List Prop),c0):vU Tryz.prog 73 (argsE [(.sl (.nat .u32))] ls) [] (XM d [(.s 1099511627776 (.n 4294967295))] ls).exp [(d,some (XL [(.s 1099511627776 (.n 4294967295))] ls).exp)]:=XO.sig d ls hx hp
theorem Qd(b:List Bd)(ls:List Nat)(hx:Bnds [.sl (.nat .u32)] b ls)(hp: ∀p∈([∀u∈ls,u<4294967296]:List Prop),p):(WV.c (.one (.dt .mag (.n (32*(b0 b).len)) (qe ls)))).ok:=qa (DM (hp _ q6W) (Bnds.h1 hx).sl.1) rfl
theorem HI(ls:List Nat)(hx:Bnds [.sl (.nat .u32)] [.s 1099511627776 (.n 4294967295)] ls)(hp: ∀p∈([∀u∈ls,u<4294967296]:List Prop),p)(b:Bd):Sig Tryz.prog 73 (argsE [.sl (.nat .u32)] ls) (WV.c (.one (.dt .mag b (qe ls)))).exp:=by
 have h:=frzO (Qe 0 ls hx hp) (by decide) rfl .u;rw[magE (qe ls) .u b]at h;exact h
def Bc:Ctr Tryz.prog:=⟨73,[.sl (.nat .u32)],[.s 1099511627776 (.n 4294967295)],λz=>[∀u∈z,u<4294967296],λb z=> .c (.one (.dt .mag (.n (32*(b0 b).len)) (qe z))),λz hx hp=>HI z hx hp _,λ_ _=>rfl,λb z hx hp=>Qd b z hx hp⟩
theorem NL(x:Nat)(hx:Bnds [.mag] [.n 1099511627776] x)(b:Bd):Sig Tryz.prog 73 (argsE [.mag] x) (WV.c (.one (.dt .mag b x))).exp:=by
 have h:=HI (limbs x) ⟨q7k (qv (q7h hx)) (by decide),(Bnd.limbs hx).2⟩ (by intro p hp;simp only[q6U,q72,or_false]at hp;subst hp;exact jo x) b;rw[qL,<-E7]at h;exact h
def Iv:Ctr Tryz.prog:=⟨73,[.mag],[.n 1099511627776],λz=>[],λb z=> .c (.one (.dt .mag (b0 b) z)),λz hx hp=>NL z hx _,λ_ _=>rfl,λb z hx hp=>qa (Bnds.h1 hx) rfl⟩
abbrev q6k:FI:=⟨77,[(.nat .u64)],[(.n 18446744073709551615)],λ_=>[],λb z=>(λ(x:Nat)=> .c (.one (.dt .mag (.n (Nat.log2 (b0 b).nb+1)) (x)))) z⟩
theorem q6l:q6k.OK Tryz.prog:=qB hmix 10 Tryz.func77 rfl rfl (by decide) [] (λ(x:Nat) b hx hp=>qa (A6 (Bnds.h1 hx).nat) rfl) (λ(x:Nat) hx hp=>by
 have hx0:x<=18446744073709551615:=hx
 refine⟨.h 1 5 (.mk (.im (.nat .u32) (.n 4294967295))) (.h 1 6 (.c Bc) (.nil)),kcast (by kernel_rfl) (I (by intro u hu;simp only[q6U,q72,or_false]at hu;omega: ∀u∈[x%4294967296,x/2^32],u<4294967296) ((by simp only[qe];omega:qe [x%4294967296,x/2^32]=x)))⟩)
abbrev JD:Ctr Tryz.prog:=FI.c q6l
abbrev SF:FI:=⟨164,[(.sl (.nat .u32))],[(.s 1099511627776 (.n 4294967295))],λz=>(λ(ls:List Nat)=>[ls.length=0\/ls.getD (ls.length-1) 0≠0]) z,λb z=> .c (.one (.vl (.bool true)))⟩
theorem SG:SF.OK Tryz.prog:=qB hmix 15 Tryz.func164 rfl rfl (by decide) [] (λ(ls:List Nat) b hx hp=>AX rfl) (λ(ls:List Nat) hx hp=>by
 have hl0:ls.length<=1099511627776:=hx.1;have hp0:ls.length=0\/ls.getD (ls.length-1) 0≠0:=hp _ (q6W)
 refine⟨.cond (.nil) (.h 1 7 (.i .sub) (.nil)),kcast (by kernel_rfl) (Sp (ls.length=0) (λh1=>trivial) (λh2=>I (?_:1<=ls.length) (I (?_:ls.length-1<ls.length) ((?_:ls.getD (ls.length-1) 0≠0)))))⟩<;>omega)
abbrev SE:Ctr Tryz.prog:=FI.c SG
abbrev q3t:FI:=⟨42,[.mag,.mag],[(.n 1099511627776),(.n 1099511627776)],λ_=>[],λb z=>(λ(x:Nat)(y:Nat)=> .c (.one (.dt (.int .i64) (.n 1) (qZ x y)))) z.1 z.2⟩
theorem q3u:q3t.OK Tryz.prog:=qB hmix 41 Tryz.func42 rfl rfl (by decide) [] (λ(x:Nat)(y:Nat) b hx hp=>qa (LL x y) rfl) (λ(x:Nat)(y:Nat) hx hp=>by
 have hx0:qJ x 1099511627776:=hx.1;have hl0:(limbs x).length<=34359738369:=qv (q7h hx0);have hx1:qJ y 1099511627776:=hx.2;have hl1:(limbs y).length<=34359738369:=qv (q7h hx1)
 refine⟨.cond (.nil) (.loop [.s 5 (.int .i64) (.n 68719476736)] (λ(z:Int)=>CmpI x y z) (λ(z:Int)=>(z+1).toNat) (λ(z:Int)=> .cond (.h 8 2 (.ix z.toNat) (.h 8 6 (.ix z.toNat) (.cond (.nil) (.h 10 2 (.ix z.toNat) (.h 10 6 (.ix z.toNat) (.nil)))))) (.nil))),kcast (by kernel_rfl) (Sp ((limbs x).length≠(limbs y).length) (λh1=>Sp ((limbs x).length<(limbs y).length) (λh2=>(?_:(-1)=qZ x y)) (λh3=>(?_:1=qZ x y))) (λh4=>I (CmpI.start (by omega):CmpI x y ((((limbs x).length:Nat):Int) -1)) (λ(z:Int)(hb5:HB [.s 5 (.int .i64) (.n 68719476736)] z)(hC:CmpI x y z)=>have hv12:=(show Int.natAbs z<=68719476736 from hb5);have hC0:=hC.h0;have hC1:=hC.h1;Sp (0<=z) (λh6=>I (?_:z=((z.toNat:Nat):Int)) (I (?_:z.toNat<(limbs x).length) (I (?_:z=((z.toNat:Nat):Int)) (I (?_:z.toNat<(limbs y).length) (Sp ((limbs x).getD z.toNat 0<(limbs y).getD z.toNat 0) (λh7=>(?_:(-1)=qZ x y)) (λh8=>I (?_:z=((z.toNat:Nat):Int)) (I (?_:z.toNat<(limbs x).length) (I (?_:z=((z.toNat:Nat):Int)) (I (?_:z.toNat<(limbs y).length) (Sp ((limbs y).getD z.toNat 0<(limbs x).getD z.toNat 0) (λh9=>(?_:1=qZ x y)) (λh10=>I (show Int.natAbs (z-1)<=68719476736 by omega:Bnd (.int .i64) (.n 68719476736) (z-1)) (q6q ((hC.at (by omega) (by omega)).1 (by omega):CmpI x y (z-1)) (?_:((z-1)+1).toNat<(z+1).toNat))))))))))))) (λh11=>((hC.fin (by omega)).symm:0=qZ x y)))))⟩<;>first|omega|(first|exact(K5 (by omega)).symm|exact((hC.at (by omega) (by omega)).2.1 (by omega)).symm)|(first|exact(K6 (by omega)).symm|exact((hC.at (by omega) (by omega)).2.2 (by omega)).symm))
abbrev EJ:Ctr Tryz.prog:=FI.c q3u
abbrev Sw:FI:=⟨76,[.mag,.mag],[(.n 1099511627776),(.n 1099511627776)],λz=>(λ(x:Nat)(y:Nat)=>[y<=x]) z.1 z.2,λb z=>(λ(x:Nat)(y:Nat)=> .c (.one (.dt .mag (b0 b) (x-y)))) z.1 z.2⟩
theorem Sy:Sw.OK Tryz.prog:=qB hmix 50 Tryz.func76 rfl rfl (by decide) [] (λ(x:Nat)(y:Nat) b hx hp=>qa (Bnd.magLe (Bnds.h2 hx).1 (Nat.sub_le _ _)) rfl) (λ(x:Nat)(y:Nat) hx hp=>by
 have hx0:qJ x 1099511627776:=hx.1;have hl0:(limbs x).length<=34359738369:=qv (q7h hx0);have hx1:qJ y 1099511627776:=hx.2;have hl1:(limbs y).length<=34359738369:=qv (q7h hx1);have hp0:y<=x:=hp _ (q6W);have hlen:=zL hp0
 refine⟨.h 1 2 (.mk (.arr (.nat .u32) (.n 4294967295))) (.loop [.s 7 (.nat .i64) (.n 34359738369),.s 6 (.nat .u64) (.n 1),.a 12 (.nat .u32) (.n 4294967295)] (λ((i,c,out):Nat×Nat×List Nat)=>SubI x y i c out) (λ((i,c,out):Nat×Nat×List Nat)=>(limbs x).length-i) (λ((i,c,out):Nat×Nat×List Nat)=> .cond (.cond (.cond (.h 14 4 (.i .sub) (.nil)) (.h 14 4 (.i .sub) (.nil))) (.cond (.h 14 4 (.i .sub) (.nil)) (.h 14 4 (.i .sub) (.nil)))) (.pre 15 (.frz 12 true [5]) (.h 15 1 (.c Bc) (.nil))))),kcast (by kernel_rfl) (I (?_:(limbs x).length=(limbs x).length) (I (SubI.start x y:SubI x y 0 0 (List.replicate ((limbs x).length) (0:Nat))) (λ(i:Nat)(c:Nat)(out:List Nat)(hb1:HB [.s 7 (.nat .i64) (.n 34359738369),.s 6 (.nat .u64) (.n 1),.a 12 (.nat .u32) (.n 4294967295)] (i,c,out))(hI:SubI x y i c out)=>have hv10:=(show i<=34359738369 from hb1.1);have hv11:=(show c<=1 from hb1.2.1);have hv12:=(show∀u∈out,u<=4294967295 from hb1.2.2);have hIl:=hI.hl;have hIi:=hI.hi;have hIc:=hI.hc;have hg1:=qj x i;have hg2:=qj y i;Sp (i<(limbs x).length) (λh2=>Sp (i<(limbs y).length) (λh3=>I (?_:i<(limbs y).length) (I (?_:i<(limbs x).length) (Sp ((limbs x).getD i 0<c+((limbs y).getD i 0)) (λh4=>I (?_:c+((limbs y).getD i 0)<=((limbs x).getD i 0)+4294967296) (I (?_:i<(limbs x).length) (I (?_:i<out.length) (I (show(i+1)<=34359738369 by omega:Bnd (.nat .i64) (.n 34359738369) (i+1)) (q6q (?_:SubI x y (i+1) 1 (out.set i (((((limbs x).getD i 0)+4294967296) -(c+((limbs y).getD i 0)))%4294967296))) (?_:(limbs x).length-(i+1)<(limbs x).length-i)))))) (λh5=>I (?_:c+((limbs y).getD i 0)<=(limbs x).getD i 0) (I (?_:i<(limbs x).length) (I (?_:i<out.length) (I (show(i+1)<=34359738369 by omega:Bnd (.nat .i64) (.n 34359738369) (i+1)) (q6q (?_:SubI x y (i+1) 0 (out.set i (((limbs x).getD i 0) -(c+((limbs y).getD i 0))))) (?_:(limbs x).length-(i+1)<(limbs x).length-i))))))))) (λh6=>I (?_:i<(limbs x).length) (Sp ((limbs x).getD i 0<c) (λh7=>I (?_:c<=((limbs x).getD i 0)+4294967296) (I (?_:i<(limbs x).length) (I (?_:i<out.length) (I (show(i+1)<=34359738369 by omega:Bnd (.nat .i64) (.n 34359738369) (i+1)) (q6q (?_:SubI x y (i+1) 1 (out.set i (((((limbs x).getD i 0)+4294967296) -c)%4294967296))) (?_:(limbs x).length-(i+1)<(limbs x).length-i)))))) (λh8=>I (?_:c<=(limbs x).getD i 0) (I (?_:i<(limbs x).length) (I (?_:i<out.length) (I (show(i+1)<=34359738369 by omega:Bnd (.nat .i64) (.n 34359738369) (i+1)) (q6q (?_:SubI x y (i+1) 0 (out.set i (((limbs x).getD i 0) -c))) (?_:(limbs x).length-(i+1)<(limbs x).length-i))))))))) (λh9=>I (?_:(limbs x).length=out.length) (have hF:=hI.fin' (by omega) hp0;I (hF.2: ∀u∈out,u<4294967296) ((hF.1:qe out=x-y)))))))⟩<;>first|omega|(first|exact hI.lt (by omega) (by first|rfl|rw[qS (l:=limbs y) (by omega),q7a]) (by assumption)|exact hI.ge (by omega) (by first|rfl|rw[qS (l:=limbs y) (by omega),q7a]) (by assumption)))
abbrev Li:Ctr Tryz.prog:=FI.c Sy
abbrev q3C:FI:=⟨43,[.mag,.mag],[(.n 1099511627776),(.n 1099511627776)],λ_=>[],λb z=>(λ(x:Nat)(y:Nat)=> .tup [.one (.dt .mag (b0 b) (x-y)),.one (.dt (.int .i64) (.n 7) (subC x y))]) z.1 z.2⟩
theorem q3D:q3C.OK Tryz.prog:=qB hmix 13 Tryz.func43 rfl rfl (by decide) [(42,.c EJ),(76,.c Li)] (λ(x:Nat)(y:Nat) b hx hp=>qc (qa (Bnd.magLe (Bnds.h2 hx).1 (Nat.sub_le _ _)) rfl) (qc (qa (PR x y) rfl) qy)) (λ(x:Nat)(y:Nat) hx hp=>by
 have hx0:qJ x 1099511627776:=hx.1;have hl0:(limbs x).length<=34359738369:=qv (q7h hx0);have hx1:qJ y 1099511627776:=hx.2;have hl1:(limbs y).length<=34359738369:=qv (q7h hx1)
 refine⟨.nil,kcast (by kernel_rfl) (Sp (qZ x y<0) (λh1=>q6q (by have:=vw.1 (show qZ x y<0 by assumption);omega:0=x-y) ((if_pos (vw.1 (by assumption))).symm:7=subC x y)) (λh2=>have hp0:=(show y<=x from Nat.le_of_not_lt (mt vw.2 (by assumption)));I (?_:y<=x) (q6q (Eq.refl (x-y)) ((if_neg (by omega)).symm:0=subC x y))))⟩<;>omega)
abbrev q3B:Ctr Tryz.prog:=FI.c q3D
abbrev q3z:FI:=⟨38,[.mag,.mag],[(.n 1099511627776),(.n 1099511627776)],λ_=>[],λb z=>(λ(x:Nat)(y:Nat)=> .c (.one (.dt .mag (.n ((b0 b).nb+(b1 b).nb)) (x*y)))) z.1 z.2⟩
theorem q3A:q3z.OK Tryz.prog:=qB hmix 67 Tryz.func38 rfl rfl (by decide) [] (λ(x:Nat)(y:Nat) b hx hp=>qa (Fa (Bnds.h2 hx).1.mag (Bnds.h2 hx).2.mag) rfl) (λ(x:Nat)(y:Nat) hx hp=>by
 have hx0:qJ x 1099511627776:=hx.1;have hl0:(limbs x).length<=34359738369:=qv (q7h hx0);have hx1:qJ y 1099511627776:=hx.2;have hl1:(limbs y).length<=34359738369:=qv (q7h hx1)
 refine⟨.h 1 5 (.mk (.arr (.nat .u32) (.n 4294967295))) (.loop [.s 6 (.nat .i64) (.n 34359738369),.a 14 (.nat .u32) (.n 4294967295)] (λ((i,out):Nat×List Nat)=>MulI x y i out) (λ((i,out):Nat×List Nat)=>(limbs x).length-i) (λ((i,out):Nat×List Nat)=> .cond (.loop [.s 8 (.nat .i64) (.n 34359738369),.s 7 (.nat .u64) (.n 4294967295),.a 14 (.nat .u32) (.n 4294967295)] (λ((j,c,out2):Nat×Nat×List Nat)=>MulJ x y i ((limbs x).getD i 0) j c out out2) (λ((j,c,out2):Nat×Nat×List Nat)=>(limbs y).length-j) (λ((j,c,out2):Nat×Nat×List Nat)=> .nil)) (.pre 13 (.frz 14 true [5]) (.h 13 1 (.c Bc) (.nil))))),kcast (by kernel_rfl) (I (?_:((limbs x).length)+((limbs y).length)=((limbs x).length)+((limbs y).length)) (I (MulI.start x y:MulI x y 0 (List.replicate (((limbs x).length)+((limbs y).length)) (0:Nat))) (λ(i:Nat)(out:List Nat)(hb1:HB [.s 6 (.nat .i64) (.n 34359738369),.a 14 (.nat .u32) (.n 4294967295)] (i,out))(hM:MulI x y i out)=>have hv10:=(show i<=34359738369 from hb1.1);have hv11:=(show∀u∈out,u<=4294967295 from hb1.2);have hMl:=hM.hl;have hMi:=hM.hi;Sp (i<(limbs x).length) (λh2=>I (MulJ.start hM:MulJ x y i ((limbs x).getD i 0) 0 0 out out) (λ(j:Nat)(c:Nat)(out2:List Nat)(hb3:HB [.s 8 (.nat .i64) (.n 34359738369),.s 7 (.nat .u64) (.n 4294967295),.a 14 (.nat .u32) (.n 4294967295)] (j,c,out2))(hJ:MulJ x y i ((limbs x).getD i 0) j c out out2)=>have hv6:=(show j<=34359738369 from hb3.1);have hv7:=(show c<=4294967295 from hb3.2.1);have hv8:=(show∀u∈out2,u<=4294967295 from hb3.2.2);have hJl:=hJ.hl;have hJj:=hJ.hj;have hJc:=hJ.hc;Sp (j<(limbs y).length) (λh4=>I (?_:i<(limbs x).length) (I (?_:j<(limbs y).length) (I (?_:i+j<((limbs x).length)+((limbs y).length)) (I (?_:i+j<out2.length) (I (?_:i+j<((limbs x).length)+((limbs y).length)) (I (?_:i+j<out2.length) (I (show(j+1)<=34359738369 by omega:Bnd (.nat .i64) (.n 34359738369) (j+1)) (q6q ((hJ.step (by omega) (by omega) (qj x i) rfl).1:MulJ x y i ((limbs x).getD i 0) (j+1) ((c+((((limbs x).getD i 0)*((limbs y).getD j 0))+(out2.getD (i+j) 0)))/2^32) out (out2.set (i+j) ((c+((((limbs x).getD i 0)*((limbs y).getD j 0))+(out2.getD (i+j) 0)))%4294967296))) (?_:(limbs y).length-(j+1)<(limbs y).length-j))))))))) (λh5=>I (?_:i+((limbs y).length)<((limbs x).length)+((limbs y).length)) (I (?_:i+((limbs y).length)<out2.length) (I (show(i+1)<=34359738369 by omega:Bnd (.nat .i64) (.n 34359738369) (i+1)) (q6q (MulJ.fin' hM (by omega) hJ (by omega):MulI x y (i+1) (out2.set (i+((limbs y).length)) c)) (?_:(limbs x).length-(i+1)<(limbs x).length-i))))))) (λh9=>I (?_:((limbs x).length)+((limbs y).length)=out.length) (have hF:=hM.fin' (by omega);I (hF.2: ∀u∈out,u<4294967296) ((hF.1:qe out=x*y)))))))⟩<;>omega)
abbrev EK:Ctr Tryz.prog:=FI.c q3A
abbrev Q9:FI:=⟨134,[.mag,(.nat .u32)],[(.n 1099511627776),(.n 4294967295)],λz=>(λ(x:Nat)(u:Nat)=>[0<u]) z.1 z.2,λb z=>(λ(x:Nat)(u:Nat)=> .tup [.one (.dt .mag (b0 b) (x/u)),.one (.dt (.nat .u32) (b1 b) (x%u))]) z.1 z.2⟩
theorem Qa:Q9.OK Tryz.prog:=qB hmix 43 Tryz.func134 rfl rfl (by decide) [] (λ(x:Nat)(u:Nat) b hx hp=>qc (qa ((Bnds.h2 hx).1.magLe (q7b _ _)) rfl) (qc (qa ((Bnds.h2 hx).2.natLe (q7h (q7q _ (hp _ (q6W))))) rfl) qy)) (λ(x:Nat)(u:Nat) hx hp=>by
 have hx0:qJ x 1099511627776:=hx.1;have hl0:(limbs x).length<=34359738369:=qv (q7h hx0);have hx1:u<=4294967295:=hx.2;have hp0:0<u:=hp _ (q6W)
 refine⟨.h 1 2 (.mk (.arr (.nat .u32) (.n 4294967295))) (.loop [.s 8 (.int .i64) (.n 34359738370),.s 7 (.nat .u64) (.n 4294967295),.a 11 (.nat .u32) (.n 4294967295)] (λ((z,r,out):Int×Nat×List Nat)=>SmallZ x u z r out) (λ((z,r,out):Int×Nat×List Nat)=>(z+1).toNat) (λ((z,r,out):Int×Nat×List Nat)=> .cond (.h 6 4 (.ix z.toNat) (.h 6 7 (.i (.n ((r*2^32)+((limbs x).getD z.toNat 0)) 18446744073709551615)) (.h 7 7 (.ix z.toNat) (.nil)))) (.pre 9 (.frz 11 true [6,7]) (.h 9 1 (.c Bc) (.nil))))),kcast (by kernel_rfl) (I (?_:(limbs x).length=(limbs x).length) (I (SmallZ.start hp0:SmallZ x u ((((limbs x).length:Nat):Int) -1) 0 (List.replicate ((limbs x).length) (0:Nat))) (λ(z:Int)(r:Nat)(out:List Nat)(hb1:HB [.s 8 (.int .i64) (.n 34359738370),.s 7 (.nat .u64) (.n 4294967295),.a 11 (.nat .u32) (.n 4294967295)] (z,r,out))(hI:SmallZ x u z r out)=>have hv4:=(show Int.natAbs z<=34359738370 from hb1.1);have hv5:=(show r<=4294967295 from hb1.2.1);have hv6:=(show∀u∈out,u<=4294967295 from hb1.2.2);have hB:=hI.b;Sp (0<=z) (λh2=>I (?_:z=((z.toNat:Nat):Int)) (I (?_:z.toNat<(limbs x).length) (I (Cm _ 32 rfl (qj _ _) (by have:=qj x z.toNat;omega):qK .or .u64 ((r*2^32:Nat):Int) (((limbs x).getD z.toNat 0:Nat):Int) (((r*2^32)+((limbs x).getD z.toNat 0):Nat):Int)) (I (by have:=qj x z.toNat;omega:(r*2^32)+((limbs x).getD z.toNat 0)<=18446744073709551615) (I (?_:0<u) (I (?_:z=((z.toNat:Nat):Int)) (I (?_:z.toNat<(limbs x).length) (I (?_:z.toNat<out.length) (I (?_:0<u) (I (show Int.natAbs (z-1)<=34359738370 by omega:Bnd (.int .i64) (.n 34359738370) (z-1)) (q6q (hI.step (by omega) rfl:SmallZ x u (z-1) (((r*2^32)+((limbs x).getD z.toNat 0))%u) (out.set z.toNat ((((r*2^32)+((limbs x).getD z.toNat 0))/u)%4294967296))) (?_:((z-1)+1).toNat<(z+1).toNat)))))))))))) (λh3=>I (?_:(limbs x).length=out.length) (have hF:=hI.fin (by omega);I (hF.2.2: ∀u∈out,u<4294967296) (q6q (hF.1:qe out=x/u) (hF.2.1:r=x%u)))))))⟩<;>omega)
abbrev Q8:Ctr Tryz.prog:=FI.c Qa
abbrev SC:FI:=⟨138,[.mag,(.nat .u32)],[(.n 1099511627776),(.n 4294967295)],λ_=>[],λb z=>(λ(x:Nat)(u:Nat)=> .c (.one (.dt .mag (.n ((b0 b).nb+(Nat.log2 (b1 b).nb+1))) (x*u)))) z.1 z.2⟩
theorem SD:SC.OK Tryz.prog:=qB hmix 10 Tryz.func138 rfl rfl (by decide) [(38,.c EK),(77,.c JD)] (λ(x:Nat)(u:Nat) b hx hp=>qa (Fa (Bnds.h2 hx).1.mag (A6 (Bnds.h2 hx).2.nat)) rfl) (λ(x:Nat)(u:Nat) hx hp=>by
 refine⟨.nil,kcast (by kernel_rfl) ((Eq.refl (x*u)))⟩)
abbrev SB:Ctr Tryz.prog:=FI.c SD
abbrev Sz:FI:=⟨133,[.mag],[(.n 1099511627776)],λ_=>[],λb z=>(λ(x:Nat)=> .tup [.one (.dt (.nat .u64) (.n 18446744073709551615) (xw x)),.one (.dt .bool .u (xk x))]) z⟩
theorem SA:Sz.OK Tryz.prog:=qB hmix 26 Tryz.func133 rfl rfl (by decide) [] (λ(x:Nat) b hx hp=>qc (qa (q6p x) rfl) (qc (qa trivial rfl) qy)) (λ(x:Nat) hx hp=>by
 have hx0:qJ x 1099511627776:=hx;have hl0:(limbs x).length<=34359738369:=qv (q7h hx0)
 refine⟨.cond (.nil) (.cond (.nil) (.cond (.h 7 9 (.i (.n (((limbs x).getD 0 0)+(((limbs x).getD 1 0)*2^32)) 18446744073709551615)) (.nil)) (.nil))),kcast (by kernel_rfl) (Sp ((limbs x).length=0) (λh1=>q6q (by rw[(xw_y (by omega)).1];exact(nl0.1 (by omega)).symm:0=xw x) ((xw_y (by omega)).2.symm:true=xk x)) (λh2=>Sp ((limbs x).length=1) (λh3=>I (?_:0<(limbs x).length) (q6q (by rw[(xw_y (by omega)).1];exact N7 (by omega):(limbs x).getD 0 0=xw x) ((xw_y (by omega)).2.symm:true=xk x))) (λh4=>Sp ((limbs x).length=2) (λh5=>I (?_:0<(limbs x).length) (I (?_:1<(limbs x).length) (I (Gq _ 32 rfl (qj _ _) (by have:=qj x 0;have:=qj x 1;omega):qK .or .u64 (((limbs x).getD 0 0:Nat):Int) ((((limbs x).getD 1 0)*2^32:Nat):Int) ((((limbs x).getD 0 0)+(((limbs x).getD 1 0)*2^32):Nat):Int)) (I (by have:=qj x 0;have:=qj x 1;omega:((limbs x).getD 0 0)+(((limbs x).getD 1 0)*2^32)<=18446744073709551615) (q6q (by rw[(xw_y (by omega)).1];exact PV (by omega):((limbs x).getD 0 0)+(((limbs x).getD 1 0)*2^32)=xw x) ((xw_y (by omega)).2.symm:true=xk x)))))) (λh6=>q6q ((xw_n (by omega)).1.symm:0=xw x) ((xw_n (by omega)).2.symm:false=xk x)))))⟩<;>omega)
abbrev Lk:Ctr Tryz.prog:=FI.c SA
abbrev XD:FI:=⟨135,[.mag],[(.n 1099511627776)],λ_=>[],λb z=>(λ(x:Nat)=> .c (.one (.dt (.nat .i64) (b0 b) (bl x)))) z⟩
theorem XE:XD.OK Tryz.prog:=qB hmix 25 Tryz.func135 rfl rfl (by decide) [] (λ(x:Nat) b hx hp=>qa (NS (Bnds.h1 hx)) rfl) (λ(x:Nat) hx hp=>by
 have hx0:qJ x 1099511627776:=hx;have hl0:(limbs x).length<=34359738369:=qv (q7h hx0)
 refine⟨.cond (.nil) (.h 3 2 (.i .sub) (.h 4 3 (.i .sub) (.loop [.s 3 (.nat .i64) (.n 1099511627872),.s 4 (.nat .u32) (.n 4294967295)] (λ((k,v):Nat×Nat)=>k+bl v=bl x) (λ((k,v):Nat×Nat)=>v) (λ((k,v):Nat×Nat)=> .nil)))),kcast (by kernel_rfl) (Sp ((limbs x).length=0) (λh1=>(by have:=(nl0 (x:=x)).1 (by omega);subst this;rfl:0=bl x)) (λh2=>have hpos:=(show 0<(limbs x).length by omega);have hBB:=HN hpos;I (?_:1<=(limbs x).length) (I (?_:1<=(limbs x).length) (I (?_:((limbs x).length) -1<(limbs x).length) (I (hBB:(32*(((limbs x).length) -1))+bl ((limbs x).getD (((limbs x).length) -1) 0)=bl x) (λ(k:Nat)(v:Nat)(hb3:HB [.s 3 (.nat .i64) (.n 1099511627872),.s 4 (.nat .u32) (.n 4294967295)] (k,v))(hC:k+bl v=bl x)=>have hv6:=(show k<=1099511627872 from hb3.1);have hv7:=(show v<=4294967295 from hb3.2);have hbx:=(Bz hx0:bl x<=1099511627776);Sp (v≠0) (λh4=>I (show(k+1)<=1099511627872 by omega:Bnd (.nat .i64) (.n 1099511627872) (k+1)) (q6q (by have:=TV (v:=v) (by omega);omega:(k+1)+bl (v/2^1)=bl x) (?_:v/2^1<v))) (λh5=>(by have e:v=0:=(by omega);rw[e,EO]at hC;omega:k=bl x))))))))⟩<;>omega)
abbrev Mv:Ctr Tryz.prog:=FI.c XE
end Go.Proofs.YteeamcbonfkjcaaGreat.Sx
