/-
Own laws, part 4. No condition.
-/
import Derived.Test.YtknbiadjbdemdaaGreatS3
namespace Go.Proofs.YtknbiadjbdemdaaGreat.Sx
open Go Go.Proofs
set_option linter.unusedVariables false
set_option linter.unusedSimpArgs false
set_option maxRecDepth 20000
set_option maxHeartbeats 4000000
theorem U2(l:List Nat)(u:Nat):qd (l++[u])=qd l+4294967296^l.length*u:=by rw[Bl];simp[qd]
theorem q04{l:List Nat}{u:Nat}(h: ∀v∈l,v<4294967296)(hu:u<4294967296): ∀v∈l++[u],v<4294967296:=by
 intro v hv;rcases q5i.1 hv with hv|hv
 .exact h v hv
 .rw[q5p.1 hv];exact hu
theorem MQ{l:List Nat}(hu: ∀v∈l,v<4294967296)(h:(limbs (qd l)).length=l.length):l=limbs (qd l):=by
 have h1:=Nf hu;have h2:=Nf (vh (qd l));rw[qY,h]at h2;exact h1.trans h2.symm
structure AddX (x y i c:Nat) (out:List Nat):Prop where
 hl:out.length=i
 hu: ∀u∈out,u<4294967296
 hc:c<=1
 hv:qd out+4294967296^i*c=qd ((limbs x).take i)+qd ((limbs y).take i)
 hi:i<=max (limbs x).length (limbs y).length+1
 hm:i=max (limbs x).length (limbs y).length+1->c=0/\4294967296^(max (limbs x).length (limbs y).length)<=x+y
theorem AddX.start(x y:Nat):AddX x y 0 0 []:=⟨rfl,λu hu=>by simp at hu,by omega,by simp[qd],by omega,λh=>by omega⟩
theorem AddX.le{x y i c:Nat}{out:List Nat}(h:AddX x y i c out)(hc:i<(limbs x).length\/i<(limbs y).length\/c≠0):i<=max (limbs x).length (limbs y).length:=by
 have:=h.hi;rcases q5L (max (limbs x).length (limbs y).length) i with e|e
 .have:=h.hm (by omega);omega
 .exact e
theorem AddX.step{x y i c s:Nat}{out:List Nat}(h:AddX x y i c out)(hc:i<(limbs x).length\/i<(limbs y).length\/c≠0)(hs:s=c+(limbs x).getD i 0+(limbs y).getD i 0):
  AddX x y (i+1) (s/2^32) (out++[s%4294967296]):=by
 have hx:=qz x i;have hy:=qz y i;have hc1:=h.hc;have hle:=h.le hc;refine⟨by simp[h.hl],q04 h.hu (q5O _ (by omega)),by omega,?_,by omega,?_⟩
 .rw[U2,h.hl,jN,jN,q61]
  have e:4294967296^i*(s%4294967296)+4294967296^i*4294967296*(s/2^32)=4294967296^i*s:=by
   rw[q5R,<-q5Q,show s/2^32=s/4294967296 from rfl,Nat.mod_add_div]
  have e2:4294967296^i*s=4294967296^i*c+4294967296^i*(limbs x).getD i 0+4294967296^i*(limbs y).getD i 0:=by rw[hs,q5Q,q5Q]
  have:=h.hv;omega
 .intro e
  have hx0:(limbs x).getD i 0=0:=j4 (by omega);have hy0:(limbs y).getD i 0=0:=j4 (by omega);have hv:=h.hv;have hc0:c=1:=by omega
  rw[wa (by omega),wa (by omega),qY,qY,hc0,show i=max (limbs x).length (limbs y).length by omega]at hv;refine⟨by omega,by omega⟩
theorem AddX.step2{x y i c s u:Nat}{out:List Nat}(h:AddX x y i c out)(hc:i<(limbs x).length\/i<(limbs y).length\/c≠0)(hs:s=c+(limbs x).getD i 0+(limbs y).getD i 0)(hu:u=s%4294967296):
  AddX x y (i+1) (s/2^32) (out++[u]):=by subst hu;exact h.step hc hs
theorem AddX.fin{x y i c:Nat}{out:List Nat}(h:AddX x y i c out)(h1: ¬i<(limbs x).length)(h2: ¬i<(limbs y).length)(h0:c=0):out=limbs (x+y):=by
 have hv:=h.hv;rw[wa (by omega),wa (by omega),qY,qY,h0,Nat.mul_zero,q5z]at hv;rw[<-hv];refine MQ h.hu ?_;have l1:=Pi h.hu;have l2:(limbs x).length<=(limbs (qd out)).length:=wE (by omega);have l3:(limbs y).length<=(limbs (qd out)).length:=wE (by omega);have hl:=h.hl;have hi:=h.hi;rcases q5L (max (limbs x).length (limbs y).length) i with e|e
 .have h9:=(h.hm (by omega)).2
  have:max (limbs x).length (limbs y).length<(limbs (qd out)).length:=by
   apply Nat.lt_of_not_le;intro hl;have h3:=zO (limbs (qd out)) (vh _);rw[qY]at h3;have h4:=q5Z (show 0<4294967296 by omega) hl;omega
  omega
 .omega
def dm(d:Nat):Nat:=if d=1 then 0 else d
theorem Jh(d:Nat):denL d=limbs (dm d):=by unfold denL dm;split<;>rfl
theorem RU{d b:Nat}(h:le2 d b):qM (dm d) (b+1):=by
 unfold dm;split
 .exact q60 (by omega)
 .exact wO h
theorem q0T{d e:Nat}(hd:d≠0)(he:e≠0):j0 (dm d) (dm e)=0↔d=e:=by
 rw[Dv];unfold dm;split<;>split<;>omega
theorem ysame{x y:Rat}(h: ¬decide (x.num<0)=decide (y.num<0)\/ ¬j0 x.num.natAbs y.num.natAbs=0\/ ¬j0 (dm x.den) (dm y.den)=0):false=decide (x=y):=by
 symm;apply decide_eq_false
 intro e;subst e
 rcases h with h|h|h
 .exact h rfl
 .exact h (Dv.2 rfl)
 .exact h (Dv.2 rfl)
theorem q3k{x y:Rat}(h1:decide (x.num<0)=decide (y.num<0))(h2:j0 x.num.natAbs y.num.natAbs=0):decide (j0 (dm x.den) (dm y.den)=0)=decide (x=y):=by
 have e:j0 (dm x.den) (dm y.den)=0↔x=y:=by
  rw[q0T x.den_nz y.den_nz,EH x y];constructor
  .intro h;exact⟨h1,by rw[Dv.1 h2],by rw[h]⟩
  .rintro⟨_,_,h⟩;exact GZ x.den_nz y.den_nz h
 rw[decide_eq_decide];exact e
theorem C8(v:Int):((v:Rat)).num=v:=Rat.num_intCast v
theorem G8(v:Int):((v:Rat)).den=1:=Rat.den_intCast v
def mkC'(d:Int):Int:=if d=0 then 3 else 0
theorem Xt(d:Int):(mkC' d).natAbs<=3:=by unfold mkC';split<;>decide
theorem JF(n d:Int):qr (decide (decide (n<0)≠decide (d<0))) n.natAbs d.natAbs=(n:Rat)/(d:Rat):=by
 by_cases h:d=0
 .subst h;simp[Nx,Rat.div_def]
 .have:=IP (x:=(n:Rat)) (y:=(d:Rat)) (by rw[C8];omega)
  rw[C8,C8,G8,G8,Nat.mul_one,Nat.one_mul]at this;exact this
theorem Am{n d:Int}{b c:Nat}(hn:n.natAbs<=b)(hd:d.natAbs<=c):Bnd .rat (.n (max (Nat.log2 b+1) (Nat.log2 c+1))) ((n:Rat)/(d:Rat)):=by
 rw[<-JF];exact Hx (qj (Nat.le_max_left _ _) (Aw hn)) (qj (Nat.le_max_right _ _) (Aw hd))
def Bd.mx:Bd->Nat
 | .u=>0
 | .n b=>b
 | .s _ e=>e.mx
 | .p a b=>max a.mx b.mx
abbrev V3:Type:=Rat×Rat×Rat
abbrev tV3:Ty:= .pr .rat (.pr .rat .rat)
abbrev bV3(m:Nat):Bd:= .p (.n m) (.p (.n m) (.n m))
theorem DO{b:Bd}{x:Rat}{m:Nat}(h:Bnd .rat b x)(hm:b.nb<=m):Bnd .rat (.n m) x:=by
 have h:=h.rat;exact⟨qj hm h.1,q5I h.2 (q5Z (by omega) hm)⟩
theorem Bd.nb_mx(b:Bd):b.nb<=b.mx:=by cases b<;>simp[Bd.nb,Bd.mx]
theorem Bd.l_mx(b:Bd):b.l.mx<=b.mx:=by cases b<;>simp[Bd.l,Bd.mx]<;>omega
theorem Bd.r_mx(b:Bd):b.r.mx<=b.mx:=by cases b<;>simp[Bd.r,Bd.mx]<;>omega
theorem Bnd.v3{b:Bd}{x:V3}(h:Bnd tV3 b x):Bnd .rat (.n b.mx) x.1/\Bnd .rat (.n b.mx) x.2.1/\Bnd .rat (.n b.mx) x.2.2:=by
 have h1:=h.pr;have h2:=h1.2.pr;have:=b.l_mx;have:=b.r_mx;have:=b.r.l_mx;have:=b.r.r_mx
 exact⟨DO h1.1 (q5I (Bd.nb_mx _) (by omega)),DO h2.1 (q5I (Bd.nb_mx _) (by omega)),DO h2.2 (q5I (Bd.nb_mx _) (by omega))⟩
theorem q4L{m:Nat}{x:V3}(h:Bnd .rat (.n m) x.1/\Bnd .rat (.n m) x.2.1/\Bnd .rat (.n m) x.2.2):(WV.c (.agg [.dt tV3 (bV3 m) x])).ok:=wz h
theorem Gd{x y:Rat}{a b:Nat}(hx:Bnd .rat (.n a) x)(hy:Bnd .rat (.n b) y):Bnd .rat (.n (a+b)) (x*y):=Dp hx hy
theorem X2{x y:Rat}{a b:Nat}(hx:Bnd .rat (.n a) x)(hy:Bnd .rat (.n b) y):Bnd .rat (.n (a+b+1)) (x+y):=GP hx hy
theorem jx{x:Rat}{a b:Nat}(h:Bnd .rat (.n a) x)(hm:a<=b):Bnd .rat (.n b) x:=DO h hm
theorem U0{p q:V3}:p=q↔p.1=q.1/\p.2.1=q.2.1/\p.2.2=q.2.2:=by
 obtain⟨a,b,c⟩:=p;obtain⟨d,e,f⟩:=q;simp
theorem XL{p q:V3}(h: ¬p.1=q.1\/ ¬p.2.1=q.2.1\/ ¬p.2.2=q.2.2):false=decide (p=q):=by
 symm;apply decide_eq_false;intro e;subst e;simp at h
theorem nd{p:Prop}[Decidable p](h:(!decide p)=true): ¬p:=by simpa using h
theorem nd'{p:Prop}[Decidable p](h: ¬(!decide p)=true):p:=by simpa using h
theorem yd{p:Prop}[Decidable p](h:decide p=true):p:=of_decide_eq_true h
theorem yd'{p:Prop}[Decidable p](h: ¬decide p=true): ¬p:=λe=>h (decide_eq_true e)
theorem El{α:Type}{l:List α}{d:α}{i:Nat}(h:i<l.length):l.getD i d=l[i]:=by simp[q53,h]
theorem Az{α:Type}{l:List α}{d:α}{i:Nat}(h:i<l.length):l.take (i+1)=l.take i++[l.getD i d]:=by
 rw[El h,q5v h]
theorem Nt{α:Type}{l:List α}{v:α}{i:Nat}(h:i<l.length):(l.set i v).take (i+1)=l.take i++[v]:=by
 rw[q5v (by simpa using h),List.getElem_set_self]
 congr 1
 rw[List.take_set,List.set_eq_of_length_le (by simp;omega)]
structure Cpy {α:Type} (l out:List α) (i:Nat):Prop where
 hl:out.length=l.length
 hi:i<=l.length
 ht:out.take i=l.take i
theorem Cpy.start{α:Type}{l:List α}(d:α):Cpy l (List.replicate l.length d) 0:=⟨by simp,by omega,by simp⟩
theorem Cpy.step{α:Type}{l out:List α}{i:Nat}(h:Cpy l out i)(d:α)(hi:i<l.length):Cpy l (out.set i (l.getD i d)) (i+1):=
 ⟨by simp[h.hl],by omega,by rw[Nt (by rw[h.hl];exact hi),Az hi,h.ht]⟩
theorem Cpy.fin{α:Type}{l out:List α}{i:Nat}(h:Cpy l out i)(hi: ¬i<l.length):out=l:=by
 have h1:=h.hl;have h2:=h.hi;have:=h.ht
 rwa [q5u (by omega),q5u (by omega)]at this
def subL(p q:List Rat):List Rat:=List.zipWith (· - ·) p q
def addL(p q:List Rat):List Rat:=List.zipWith (· + ·) p q
def q2g(c:Rat)(p:List Rat):List Rat:=p.map (c* ·)
theorem Bnd.slm{b:Bd}{l:List Rat}(h:Bnd (.sl .rat) b l):l.length<=b.len/\ ∀v∈l,Bnd .rat (.n b.mx) v:=by
 have h1:=h.sl;refine⟨h1.1,λv hv=>DO (h1.2 v hv) ?_⟩
 cases b with
 |s n e=>exact Bd.nb_mx e
 |_=>simp[Bd.e,Bd.nb]
def inG(f:Nat->Rat)(o:List Rat)(i:Nat):Nat->List Rat
 |0=>o
 |j+1=>(inG f o i j).set (i+j) ((inG f o i j).getD (i+j) 0+f j)
def outG(f:Nat->Nat->Rat)(o:List Rat)(n:Nat):Nat->List Rat
 |0=>o
 |i+1=>inG (f i) (outG f o n i) i n
def divG(c:Nat->Rat)(o:List Rat):Nat->List Rat
 |0=>o
 |k+1=>(divG c o k).set k ((divG c o k).getD k 0/c k)
theorem Ba(n:Nat):Bnd .rat (.n n) (0:Rat):=⟨by show(0:Nat)<_;exact q60 (by omega),by show 1<=_;exact Nat.one_le_two_pow⟩
theorem OU{l:List Rat}{m:Nat}(h: ∀v∈l,Bnd .rat (.n m) v)(i:Nat):Bnd .rat (.n m) (l.getD i 0):=by
 rw[q53]
 cases hq:l[i]? with
 |none=>exact Ba m
 |some u=>exact h u (q5n hq)
def c2(i:Nat):Rat:=[1,2,1].getD i 0
def c4(i:Nat):Rat:=[1,4,6,4,1].getD i 0
def mulT(p q:List Rat)(i j:Nat):Rat:=(c2 i*p.getD i 0)*(c2 j*q.getD j 0)
def mulL(p q:List Rat):List Rat:=divG c4 (outG (mulT p q) (List.replicate 5 0) 3 3) 5
abbrev Pole:Type:=V3×Rat
abbrev zZ:Ty:= .pr tV3 .rat
abbrev Four:Type:=Rat×Rat×Rat×Rat
abbrev Re:Ty:= .pr .rat (.pr .rat (.pr .rat .rat))
abbrev X4(m:Nat):Bd:= .p (.n m) (.p (.n m) (.p (.n m) (.n m)))
abbrev BK:Type:=Int×List Rat×List Pole
abbrev CL:Ty:= .pr (.int .i64) (.pr (.sl .rat) (.sl zZ))
abbrev Li:Type:=List Rat×List Rat×List Rat×List Rat
def Lv(p:Pole):Four:=(p.2*p.1.1,p.2*p.1.2.1,p.2*p.1.2.2,p.2)
theorem Bnd.pole{b:Bd}{x:Pole}(h:Bnd zZ b x):(Bnd .rat (.n b.mx) x.1.1/\Bnd .rat (.n b.mx) x.1.2.1/\Bnd .rat (.n b.mx) x.1.2.2)/\Bnd .rat (.n b.mx) x.2:=by
 have h1:=h.pr;have h2:=h1.1.v3;have:=b.l_mx;have:=b.r_mx
 exact⟨⟨jx h2.1 (by omega),jx h2.2.1 (by omega),jx h2.2.2 (by omega)⟩,DO h1.2 (q5I (Bd.nb_mx _) (by omega))⟩
theorem Yt{b:Bd}{p:Pole}(h:Bnd zZ b p):Bnd Re (X4 (2*b.mx)) (Lv p):=by
 have h:=h.pole;exact⟨jx (Gd h.2 h.1.1) (by omega),jx (Gd h.2 h.1.2.1) (by omega),jx (Gd h.2 h.1.2.2) (by omega),jx h.2 (by omega)⟩
theorem Bd.e_mx(b:Bd):b.e.mx<=b.mx:=by cases b<;>simp[Bd.e,Bd.mx]
def sc(r:Rat)(k:Nat):Nat:=r.num.natAbs*2^k*2^k/r.den
section
def xL(f:Li)(m:Rat)(p:List Rat):List Rat:=subL p (q2g m f.2.2.2)
def sumL(f:Li)(m:V3):List Rat:=addL (addL (mulL (xL f m.1 f.1) (xL f m.1 f.1)) (mulL (xL f m.2.1 f.2.1) (xL f m.2.1 f.2.1))) (mulL (xL f m.2.2 f.2.2.1) (xL f m.2.2 f.2.2.1))
def wtL(f:Li):List Rat:=mulL f.2.2.2 f.2.2.2
def qq(f:Li)(m:V3)(i:Nat):Rat:=(sumL f m).getD i 0/(wtL f).getD i 0
abbrev zq(m:Nat):Bd:= .p (bV3 m) (.n m)
section
variable {p d e:V3} {k:Int}
end
end
structure EqI {α:Type} (l m:List α) (i:Nat):Prop where
 hl:l.length=m.length
 hi:i<=l.length
 ht:l.take i=m.take i
theorem EqI.start{α:Type}{l m:List α}(h:l.length=m.length):EqI l m 0:=⟨h,by omega,by simp⟩
theorem EqI.step{α:Type}{l m:List α}{i:Nat}(h:EqI l m i)(d:α)(hi:i<l.length)(he:l.getD i d=m.getD i d):EqI l m (i+1):=
 ⟨h.hl,by omega,by have:=h.hl;rw[Az (d:=d) hi,Az (d:=d) (by omega),h.ht,he]⟩
theorem EqI.fin{α:Type}{l m:List α}{i:Nat}(h:EqI l m i)(hi: ¬i<l.length):l=m:=by
 have h1:=h.hl;have:=h.ht
 rwa [q5u (by omega),q5u (by omega)]at this
theorem Qn{α:Type}[DecidableEq α]{l m:List α}{i:Nat}(d:α)(h: ¬l.getD i d=m.getD i d):false=decide (l=m):=(decide_eq_false λe=>h (by rw[e])).symm
theorem S1{α:Type}[DecidableEq α]{l m:List α}(h:l.length≠m.length):false=decide (l=m):=(decide_eq_false λe=>h (by rw[e])).symm
theorem VV{x y:Pole}(h: ¬x.1=y.1): ¬x=y:=λe=>h (by rw[e])
theorem VW{x y:Pole}(h: ¬x.2=y.2): ¬x=y:=λe=>h (by rw[e])
theorem Xi{x y:BK}(h: ¬x.1=y.1\/ ¬x.2.1=y.2.1):false=decide (x=y):=by
 symm;apply decide_eq_false;intro e;subst e;simp at h
theorem q0P{x y:BK}(h1:x.1=y.1)(h2:x.2.1=y.2.1):decide (x.2.2=y.2.2)=decide (x=y):=by
 rw[decide_eq_decide];exact⟨λh=>Prod.ext h1 (Prod.ext h2 h),λh=>by rw[h]⟩
abbrev qL:Type:=List Int×Nat
abbrev jM:Ty:= .pr (.sl (.int .i64)) (.nat .i64)
theorem mod_a{a m:Int}(hm:0<m)(h:Int.tmod a m<0):Int.tmod a m+m=a%m:=by
 have h1:=Int.tmod_eq_emod (a:=a) (b:=m);have h2:=Int.emod_nonneg a (show m≠0 by omega);have h3:=Int.emod_lt_of_pos a hm;split at h1<;>omega
theorem q3K{a m:Int}(hm:0<m)(h: ¬Int.tmod a m<0):Int.tmod a m=a%m:=by
 have h1:=Int.tmod_eq_emod (a:=a) (b:=m);have h2:=Int.emod_nonneg a (show m≠0 by omega);have h3:=Int.emod_lt_of_pos a hm;split at h1<;>omega
theorem SQ{a m:Int}{b:Nat}(hm:0<m)(hb:Int.natAbs m<=b):(a%m).natAbs<=b:=by
 have h2:=Int.emod_nonneg a (show m≠0 by omega);have h3:=Int.emod_lt_of_pos a hm;omega
def qa(s:qL)(m:Int):Int:=if s.1.length<=s.2 then 0 else s.1.getD s.2 0%m
def q9(s:qL):qL:=if s.1.length<=s.2 then s else(s.1,s.2+1)
theorem Zb{s:qL}{m:Int}{b:Nat}(hm:0<m)(hb:Int.natAbs m<=b):(qa s m).natAbs<=b:=by
 unfold qa;split
 .simp
 .exact SQ hm hb
theorem va(s:qL){m:Int}(hm:0<m):0<=qa s m/\qa s m<m:=by
 unfold qa;split
 .omega
 .exact⟨Int.emod_nonneg _ (by omega),Int.emod_lt_of_pos _ hm⟩
theorem B1{s:qL}{b:Bd}(h:Bnd jM b s):Bnd jM (.p b.l (.n (max b.r.nb b.l.len))) (q9 s):=by
 have h1:=h.pr;have h2:=h1.2.nat;have h3:=h1.1.sl.1;unfold q9;split
 .exact⟨h1.1,q5I h2 (Nat.le_max_left _ _)⟩
 .refine⟨h1.1,?_⟩
  show s.2+1<=_;have:=Nat.le_max_right b.r.nb b.l.len;omega
theorem vr{s:qL}{b:Bd}(h:Bnd jM (.p b.l (.n (max b.r.nb b.l.len))) s):Bnd jM (.p b.l (.n (max b.r.nb b.l.len))) (q9 s):=by
 have:=B1 h;simpa[Bd.l,Bd.r,Bd.nb,Nat.max_assoc]using this
def numV(s:qL):Rat:=if qa (q9 s) 4=3 then((qa s 13-6:Int):Rat)/((1+qa (q9 (q9 s)) 4:Int):Rat)else((qa s 13-6:Int):Rat)
def numS(s:qL):qL:=if qa (q9 s) 4=3 then q9 (q9 (q9 s))else q9 (q9 s)
theorem SY{s:qL}{b:Bd}(h:Bnd jM b s):Bnd jM (.p b.l (.n (max b.r.nb b.l.len))) (numS s):=by
 have h1:=vr (B1 h);unfold numS;split
 .exact vr h1
 .exact h1
theorem Pl{s:qL}{b:Bd}(h:Bnd jM (.p b.l (.n (max b.r.nb b.l.len))) s):Bnd jM (.p b.l (.n (max b.r.nb b.l.len))) (numS s):=by
 have h1:=vr (vr h);unfold numS;split
 .exact vr h1
 .exact h1
theorem Iy(s:qL):Bnd .rat (.n 5) (numV s):=by
 have h1:=va s (m:=13) (by omega);have h2:=va (q9 (q9 s)) (m:=4) (by omega);have e1:Nat.log2 19+1=5:=by decide
 have e2:max (Nat.log2 19+1) (Nat.log2 5+1)=5:=by decide
 unfold numV;split
 .have:=Am (n:=qa s 13-6) (d:=1+qa (q9 (q9 s)) 4) (b:=19) (c:=5) (by omega) (by omega)
  rwa [e2]at this
 .have:=DB (v:=qa s 13-6) (b:=19) (by omega)
  rwa [e1]at this
def A4(s:qL):V3:=(numV s,numV (numS s),numV (numS (numS s)))
def vK(s:qL):qL:=numS (numS (numS s))
theorem Ng{s:qL}{b:Bd}(h:Bnd jM b s):Bnd jM (.p b.l (.n (max b.r.nb b.l.len))) (vK s):=by
 unfold vK;exact Pl (b:=b) (Pl (b:=b) (SY (b:=b) h))
theorem Nh(s:qL):Bnd tV3 (bV3 5) (A4 s):=by
 have h1:=Iy s;have h2:=Iy (numS s);have h3:=Iy (numS (numS s))
 unfold A4;generalize numV s=a at*;generalize numV (numS s)=c at*;generalize numV (numS (numS s))=d at*
 exact⟨h1,h2,h3⟩
theorem Cj{a b e:Int}(h:a-b=e)(hb:e.natAbs<=4611686018427387904):vO .sub .i64 a b e:=by
 show IntKind.wrap .i64 (a-b)=e;rw[h];exact O3 (by omega) (by omega)
section
theorem DW(x:Rat):Nat.gcd x.num.natAbs x.den=1:=x.reduced
theorem PU{d:Nat}(h:(denL d).length=1)(h1:(denL d).getD 0 0=1):False:=by
 rw[Jh]at h h1;have e:dm d=1:=BB h h1;unfold dm at e;split at e<;>omega
theorem GB{x:Rat}(h:(limbs x.num.natAbs).length=0)(h2:x.num<0):False:=by
 have:=nl0.1 h;omega
theorem HG{x:Rat}(h:(limbs x.num.natAbs).length=0)(h2:0<(denL x.den).length):False:=by
 have e:x=0:=Rat.num_eq_zero.1 (by have:=nl0.1 h;omega);subst e;exact absurd h2 (by decide)
theorem AB{g:Nat}(h:g=1):(limbs g).length=1/\(limbs g).getD 0 0=1:=by subst h;exact⟨by rw[Au];rfl,by rw[Au];rfl⟩
def v7(x:Rat):Nat:=max (bl x.num.natAbs) (bl x.den)
theorem LZ{x:Rat}{m:Nat}(h:Bnd .rat (.n m) x):v7 x<=m+1:=by
 have h:=h.rat;have h1:=E4 h.1;have h2:=E4 (wO h.2);simp only[Bd.nb]at h1 h2;unfold v7;omega
def jP(k:List Rat):Nat->List Rat
 |0=>[]
 |n+1=>if n=0\/k.getD n 0≠k.getD (n-1) 0 then jP k n++[k.getD n 0]else jP k n
abbrev dst(k:List Rat):List Rat:=jP k k.length
theorem AW(k:List Rat): ∀n,(jP k n).length<=n
 |0=>q5H 0
 |n+1=>by have:=AW k n;rw[jP];split<;>(try simp only[q5b,q5c,q5f])<;>omega
theorem Eb{k:List Rat}: ∀{n:Nat},n<=k.length-> ∀x∈jP k n,x∈k
 |0,_,x,h=>by cases h
 |n+1,hn,x,h=>by
  rw[jP]at h;split at h
  .rcases q5i.1 h with h|h
   .exact Eb (by omega) x h
   .simp only[q5p]at h;subst h;rw[El (by omega)];exact List.getElem_mem _
  .exact Eb (by omega) x h
theorem Xj{k:List Rat}{b:Bd}(h:Bnd (.sl .rat) b k):Bnd (.sl .rat) (.s b.len (.n b.mx)) (dst k):=
 ⟨q5I (AW k _) h.slm.1,λv hv=>h.slm.2 v (Eb (q5H _) v hv)⟩
theorem OJ{k:List Rat}{n:Nat}(h:n=0\/ ¬k.getD n 0=k.getD (n-1) 0):jP k n++[k.getD n 0]=jP k (n+1):=by rw[jP,if_pos h]
theorem q0X{k:List Rat}{n:Nat}(h: ¬n=0)(h2:k.getD n 0=k.getD (n-1) 0):jP k n=jP k (n+1):=by rw[jP,if_neg (by rintro(e|e);exact h e;exact e h2)]
def qW(k:List Rat)(t:Rat):Nat->Nat
 |0=>0
 |n+1=>if k.getD n 0=t then qW k t n+1 else qW k t n
theorem BD(k:List Rat)(t:Rat): ∀n,qW k t n<=n
 |0=>q5H 0
 |n+1=>by have:=BD k t n;rw[qW];split<;>omega
def srtN(k:List Rat):Nat->Bool
 |0=>true
 |n+1=>srtN k n&&(decide (n=0)||decide (¬jp (k.getD n 0) (k.getD (n-1) 0)<0))
theorem Wk{k:List Rat}{n:Nat}(h:srtN k n=true)(h2: ¬jp (k.getD n 0) (k.getD (n-1) 0)<0):srtN k (n+1)=true:=by rw[srtN,h,decide_eq_true h2];simp
theorem PS{k:List Rat}{n m:Nat}(hn:1<=n)(h2:jp (k.getD n 0) (k.getD (n-1) 0)<0)(hm:n<m):srtN k m=false:=by
 induction m with
 |zero=>omega
 |succ m ih=>
  rw[srtN];by_cases e:n=m
  .subst e;rw[decide_eq_false (show¬n=0 by omega),decide_eq_false (show¬ ¬_ from λh=>h h2)];simp
  .rw[ih (by omega)];rfl
def badM(k:List Rat)(d:Int)(i:Nat):Prop:=
 ((i=0\/i+1=(dst k).length)/\((qW k ((dst k).getD i 0) k.length:Nat):Int)≠d+1)\/d+1<((qW k ((dst k).getD i 0) k.length:Nat):Int)\/(0<i/\i+1<(dst k).length/\d<((qW k ((dst k).getD i 0) k.length:Nat):Int))
instance(k:List Rat)(d:Int)(i:Nat):Decidable (badM k d i):=by unfold badM;infer_instance
def okN(k:List Rat)(d:Int):Nat->Bool
 |0=>true
 |i+1=>okN k d i&&decide (¬badM k d i)
theorem vS{k:List Rat}{d:Int}{i:Nat}(h:okN k d i=true)(h2: ¬badM k d i):okN k d (i+1)=true:=by rw[okN,h,decide_eq_true h2];rfl
theorem wi{k:List Rat}{d:Int}{i m:Nat}(h2:badM k d i)(hm:i<m):okN k d m=false:=by
 induction m with
 |zero=>omega
 |succ m ih=>
  rw[okN];by_cases e:i=m
  .subst e;rw[decide_eq_false (show¬ ¬_ from λh=>h h2),Bool.and_false]
  .rw[ih (by omega)];rfl
def qQ(k:List Rat)(d:Int):Int:=
 if d<1\/6<d then 1 else if(k.length:Int)<2*d+2 then 5 else if 40<(k.length:Int) -d-1 then 2 else
 if srtN k k.length=false then 5 else if okN k d (dst k).length=false then 5 else if(dst k).length<2 then 5 else 0
theorem I0(k:List Rat)(d:Int):(qQ k d).natAbs<=5:=by
 unfold qQ
 repeat' split
 all_goals decide
section
variable {k:List Rat} {d:Int}
theorem Lo(h:d<1\/6<d):1=qQ k d:=by rw[qQ,if_pos h]
theorem X7(h: ¬(d<1\/6<d))(h2:(k.length:Int)<2*d+2):5=qQ k d:=by rw[qQ,if_neg h,if_pos h2]
theorem X8(h: ¬(d<1\/6<d))(h2: ¬(k.length:Int)<2*d+2)(h3:40<(k.length:Int) -d-1):2=qQ k d:=by rw[qQ,if_neg h,if_neg h2,if_pos h3]
theorem X9(h: ¬(d<1\/6<d))(h2: ¬(k.length:Int)<2*d+2)(h3: ¬40<(k.length:Int) -d-1)(h4:srtN k k.length=false):5=qQ k d:=by rw[qQ,if_neg h,if_neg h2,if_neg h3,if_pos h4]
theorem wK(h: ¬(d<1\/6<d))(h2: ¬(k.length:Int)<2*d+2)(h3: ¬40<(k.length:Int) -d-1)(h4:srtN k k.length=true)(h5:okN k d (dst k).length=false):5=qQ k d:=by
 rw[qQ,if_neg h,if_neg h2,if_neg h3,if_neg (by rw[h4];exact λe=>by cases e),if_pos h5]
theorem Xa(h: ¬(d<1\/6<d))(h2: ¬(k.length:Int)<2*d+2)(h3: ¬40<(k.length:Int) -d-1)(h4:srtN k k.length=true)(h5:okN k d (dst k).length=true)(h6:(dst k).length<2):5=qQ k d:=by
 rw[qQ,if_neg h,if_neg h2,if_neg h3,if_neg (by rw[h4];exact λe=>by cases e),if_neg (by rw[h5];exact λe=>by cases e),if_pos h6]
theorem Xb(h: ¬(d<1\/6<d))(h2: ¬(k.length:Int)<2*d+2)(h3: ¬40<(k.length:Int) -d-1)(h4:srtN k k.length=true)(h5:okN k d (dst k).length=true)(h6: ¬(dst k).length<2):0=qQ k d:=by
 rw[qQ,if_neg h,if_neg h2,if_neg h3,if_neg (by rw[h4];exact λe=>by cases e),if_neg (by rw[h5];exact λe=>by cases e),if_neg h6]
end
section
variable {c:BK}
end
def ivO(k:List Rat)(t:Rat):Prop:=jp t (k.getD 0 0)<0\/0<jp t (k.getD (k.length-1) 0)
instance(k:List Rat)(t:Rat):Decidable (ivO k t):=by unfold ivO;infer_instance
end
abbrev d0:Pole:=((0,0,0),0)
section
theorem q3N:((1:Int):Rat)=1:=rfl
theorem q0O{x y:Rat}:jp x y<0↔x<y:=by
 unfold jp;split
 .rename_i h;exact⟨λ_=>h,λ_=>by decide⟩
 .rename_i h;split
  .exact⟨λh=>absurd h (by decide),λg=>absurd g h⟩
  .exact⟨λh=>absurd h (by decide),λg=>absurd g h⟩
theorem d10(x:Rat):x/(((1:Int):Rat) -0)=x:=by rw[q3N];grind
section
variable (a b c m:V3) (w t:Rat)
end
end
section
section
variable {a b c m:V3} {w t:Rat}
end
end
section
def fidx(p:Nat->Bool):Nat->Nat->Int
 |_,0=> -1
 |i,k+1=>if p i=true then(i:Int)else fidx p (i+1) k
theorem Id(p:Nat->Bool): ∀(k i:Nat),-1<=fidx p i k/\fidx p i k<=i+k
 |0,i=>by rw[fidx];omega
 |k+1,i=>by
  have:=Id p k (i+1);rw[fidx];split<;>omega
theorem Jj{p:Nat->Bool}{i n:Nat}(h:fidx p i (n-i)=fidx p 0 n)(hi:i<n)(hp: ¬p i=true):fidx p (i+1) (n-(i+1))=fidx p 0 n:=by
 rw[show n-i=(n-(i+1))+1 by omega,fidx,if_neg hp]at h;exact h
theorem H6{p:Nat->Bool}{i n:Nat}(h:fidx p i (n-i)=fidx p 0 n)(hi:i<n)(hp:p i=true):(i:Int)=fidx p 0 n:=by
 rw[show n-i=(n-(i+1))+1 by omega,fidx,if_pos hp]at h;exact h
theorem H5{p:Nat->Bool}{i n:Nat}(h:fidx p i (n-i)=fidx p 0 n)(hi: ¬i<n): -1=fidx p 0 n:=by
 rw[show n-i=0 by omega,fidx]at h;exact h
theorem G3{p:Nat->Bool}: ∀{k i:Nat},0<=fidx p i k↔ ∃j,i<=j/\j<i+k/\p j=true
 |0,i=>by rw[fidx];exact⟨λh=>absurd h (by decide),λ⟨j,h1,h2,_⟩=>by omega⟩
 |k+1,i=>by
  rw[fidx];split
  .rename_i h;exact⟨λ_=>⟨i,q5H _,by omega,h⟩,λ_=>by omega⟩
  .rename_i h
   rw[G3];constructor
   .rintro⟨j,h1,h2,h3⟩;exact⟨j,by omega,by omega,h3⟩
   .rintro⟨j,h1,h2,h3⟩
    rcases Nat.eq_or_lt_of_le h1 with e|e
    .subst e;exact absurd h3 h
    .exact⟨j,e,by omega,h3⟩
def unqN{α:Type}(d:α)(e:α->α->Bool)(l:List α):Nat->List α
 |0=>[]
 |n+1=>if n=0\/ ¬e (l.getD n d) (l.getD (n-1) d)=true then unqN d e l n++[l.getD n d]else unqN d e l n
section
variable {α:Type} {d:α} {e:α->α->Bool} {l:List α}
structure CmO (d:α) (e:α->α->Bool) (l:List α) (i:Nat):Prop where
 h:unqN d e l i=l.take i
 h1:1<=i
 hl:i<=l.length
theorem CmO.start(h:2<=l.length):CmO d e l 1:=by
 refine⟨?_,q5H 1,by omega⟩;rw[unqN,if_pos (.inl rfl),unqN,Az (d:=d) (by omega)];simp
theorem CmO.step{i:Nat}(h:CmO d e l i)(hi:i<l.length)(hp: ¬e (l.getD i d) (l.getD (i-1) d)=true):CmO d e l (i+1):=
 ⟨by rw[unqN,if_pos (.inr hp),h.h,Az (d:=d) hi],by omega,by omega⟩
theorem CmO.fin{i:Nat}(h:CmO d e l i)(hi: ¬i<l.length):unqN d e l l.length=l:=by
 have:=h.h;have e1:i=l.length:=by have:=h.hl;omega
 rw[e1,q5t]at this;exact this
structure CmI (d:α) (e:α->α->Bool) (l m:List α) (k i:Nat):Prop where
 hl:m.length=l.length
 hk:k+1<=i
 hi:i<=l.length
 ht:m.take k=unqN d e l i
 hd: ∀j,i<=j+1->m.getD j d=l.getD j d
theorem CmI.start{i:Nat}(h:CmO d e l i)(hi:i<l.length)(hp:e (l.getD i d) (l.getD (i-1) d)=true):CmI d e l l i (i+1):=
 ⟨rfl,q5H _,hi,by rw[unqN,if_neg (by rintro(h2|h2);exact absurd h.h1 (by omega);exact h2 hp),h.h],λ_ _=>rfl⟩
theorem ZW{m:List α}{k j:Nat}{v:α}(h:k≠j):(m.set k v).getD j d=m.getD j d:=by
 rw[q53,List.getElem?_set_ne h,<-q53]
theorem CmI.go{m:List α}{k i:Nat}(h:CmI d e l m k i)(hi:i<l.length)(hp: ¬e (m.getD i d) (m.getD (i-1) d)=true):CmI d e l (m.set k (m.getD i d)) (k+1) (i+1):=by
 have hk:=h.hk;have e1:=h.hd i (by omega);have e2:=h.hd (i-1) (by omega);rw[e1,e2]at hp;refine⟨by rw[List.length_set,h.hl],by omega,by omega,?_,λj hj=>?_⟩
 .rw[Nt (by rw[h.hl];omega),h.ht,unqN,if_pos (.inr hp),e1]
 .rw[ZW (by omega)];exact h.hd j (by omega)
theorem CmI.stay{m:List α}{k i:Nat}(h:CmI d e l m k i)(hi:i<l.length)(hp:e (m.getD i d) (m.getD (i-1) d)=true):CmI d e l m k (i+1):=by
 have hk:=h.hk;rw[h.hd i (by omega),h.hd (i-1) (by omega)]at hp;exact⟨h.hl,by omega,by omega,by rw[h.ht,unqN,if_neg (by rintro(h2|h2);omega;exact h2 hp)],λj hj=>h.hd j (by omega)⟩
theorem CmI.fin{m:List α}{k i:Nat}(h:CmI d e l m k i)(hi:i=l.length):m.take k=unqN d e l l.length/\k=(unqN d e l l.length).length/\k<l.length:=by
 have hk:=h.hk;subst hi;have ht:=h.ht;refine⟨ht,?_,by omega⟩;rw[<-ht,q5g,h.hl];omega
end
section
variable {α:Type} {d:α} {e:α->α->Bool} {l:List α}
end
section
variable {α:Type} (d:α) (c:α->α->Int)
def posR(x:α)(p:List α):Nat->Nat
 |0=>0
 |j+1=>if c x (p.getD j d)<0 then posR x p j else j+1
theorem Ps(x:α)(p:List α): ∀j,posR d c x p j<=j
 |0=>q5H 0
 |j+1=>by
  unfold posR;split
  .exact Nat.le_succ_of_le (Ps x p j)
  .exact q5H _
def insR(x:α)(p:List α):List α:=p.take (posR d c x p p.length)++x::p.drop (posR d c x p p.length)
theorem V0(x:α)(p:List α):(insR d c x p).length=p.length+1:=by
 have:=Ps d c x p p.length;unfold insR;simp only[q5b,q5g,q5c,q5d];omega
def Ac(l:List α):Nat->List α
 |0=>[]
 |i+1=>insR d c (l.getD i d) (Ac l i)
theorem FK(l:List α): ∀i,(Ac d c l i).length=i
 |0=>rfl
 |i+1=>by rw[Ac,V0,FK l i]
structure SoO (l m:List α) (i:Nat):Prop where
 h:m=Ac d c l i++l.drop i
 hi:i<=l.length
structure SoI (l m:List α) (i j:Nat):Prop where
 h:m=((Ac d c l i).take j++l.getD i d::(Ac d c l i).drop j)++l.drop (i+1)
 hi:i<l.length
 hj:j<=i
 hp:posR d c (l.getD i d) (Ac d c l i) j=posR d c (l.getD i d) (Ac d c l i) i
variable {d c} {l m:List α} {i j:Nat}
theorem SoO.inner(h:SoO d c l m i)(hi:i<l.length):SoI d c l m i i:=by
 have hl:=FK d c l i;refine⟨?_,hi,q5H _,rfl⟩;have e1:(Ac d c l i).take i=Ac d c l i:=q5u (by omega);have e2:(Ac d c l i).drop i=[]:=q4Z (by omega);rw[h.h,e1,e2,q4X,List.drop_eq_getElem_cons hi,El hi];rfl
theorem SoI.at_(h:SoI d c l m i j):m.getD j d=l.getD i d:=by
 have hl:=FK d c l i;have h2:=h.hj
 rw[h.h,q53,List.getElem?_append_left (by simp only[q5b,q5g,q5c];omega),List.getElem?_append_right (by simp only[q5g];omega)];simp only[q5g,show j-min j (Ac d c l i).length=0 by omega];rfl
end
end
theorem U3{x:Rat}(h:(limbs x.num.natAbs).length=0):(denL x.den).length=0:=Nat.eq_zero_of_not_pos λh2=>HG h h2
theorem RS{d:Nat}(h: ¬(denL d).length=0):denL d=limbs d:=BM h
theorem RA(x:Rat):bl (Nat.gcd x.num.natAbs x.den)=1:=by rw[DW];decide+kernel
theorem Hy{k:List Rat}: ∀{n:Nat},srtN k n=true↔ ∀j,1<=j->j<n-> ¬jp (k.getD j 0) (k.getD (j-1) 0)<0
 |0=>⟨λ_ j _ h=>by omega,λ_=>rfl⟩
 |n+1=>by
  rw[srtN,q4R,Hy,Bool.or_eq_true,decide_eq_true_eq,decide_eq_true_eq];constructor
  .rintro⟨h1,h2⟩ j hj hjn
   rcases q5L j n with h|h
   .exact h1 j hj h
   .have:j=n:=by omega
    subst this;exact h2.resolve_left (by omega)
  .intro h
   refine⟨λj hj hjn=>h j hj (by omega),?_⟩;by_cases e:n=0
   .exact .inl e
   .exact .inr (h n (by omega) (by omega))
def SrtI(k:List Rat)(i:Nat):Prop:= ∀j,i<j->j<k.length-> ¬jp (k.getD j 0) (k.getD (j-1) 0)<0
theorem SrtI.start(k:List Rat):SrtI k (k.length-1):=λj h h2=>by omega
theorem SrtI.step{k:List Rat}{i:Nat}(h:SrtI k i)(hp: ¬jp (k.getD i 0) (k.getD (i-1) 0)<0):SrtI k (i-1):=λj h1 h2=>by
 rcases Nat.eq_or_lt_of_le (show i<=j by omega)with e|e
 .subst e;exact hp
 .exact h j e h2
theorem SrtI.fin{k:List Rat}{i:Nat}(h:SrtI k i)(hi: ¬0<i):srtN k k.length=true:=Hy.2 λj h1 h2=>h j (by omega) h2
theorem HD(k:List Rat): ∀n,unqN 0 (λx y=>decide (x=y)) k n=jP k n
 |0=>rfl
 |n+1=>by
  rw[unqN,jP,HD k n];by_cases h:n=0\/k.getD n 0≠k.getD (n-1) 0
  .rw[if_pos h,if_pos (h.imp id λh=>by simpa using h)]
  .rw[if_neg h,if_neg (λh2=>h (h2.imp id λh=>by simpa using h))]
theorem nl64{x:Nat}(h:qM x 64):(limbs x).length<=2:=q5I (wE (q5G (show x<18446744073709551615+1 from h))) (by decide)
theorem nl32{x:Nat}(h:x<=4294967295):(limbs x).length<=1:=q5I (wE h) (by decide)
theorem sm_q{x:Rat}(h:qM x.num.natAbs 31/\le2 x.den 31): ¬bigQ x:=by
 have h1:x.num.natAbs<2147483648:=h.1;have h2:x.den<=2147483648:=h.2;have h3:=nl32 (x:=x.num.natAbs) (by omega)
 have h4:(denL x.den).length<=1:=by
  unfold denL;split
  .exact q64 _
  .exact nl32 (by omega)
 unfold bigQ;omega
theorem De{x:Rat}(h:qM x.num.natAbs 31/\le2 x.den 31):pb x=true:=(p_sm (sm_q h)).2.2
theorem q4w{x y:Rat}(h:qM x.num.natAbs 31/\le2 x.den 31)(k:qM y.num.natAbs 31/\le2 y.den 31):cy (pn x*pd y) (pn y*pd x)=0:=by
 obtain⟨h1,h2,_⟩:=p_sm (sm_q h);obtain⟨k1,k2,_⟩:=p_sm (sm_q k);rw[<-h1,<-h2,<-k1,<-k2];have a1:x.num.natAbs<=2147483648:=q5F h.1;have a2:x.den<=2147483648:=h.2;have b1:y.num.natAbs<=2147483648:=q5F k.1;have b2:y.den<=2147483648:=k.2;have c1:=q5T a1 b2;have c2:=q5T b1 a2;unfold cy;omega
abbrev q2L:FI:=⟨157,[(.sl (.nat .u32))],[(.s 1099511627776 (.n 4294967295))],λz=>(λ(ls:List Nat)=>[∀u∈ls,u<4294967296]) z,λb z=>(λ(ls:List Nat)=> .c (.one (.dt .mag (.n (32*(b0 b).len)) (qd ls)))) z⟩
theorem TW:q2L.OK Tryz.prog:=qI hmix 21 Tryz.func157 rfl rfl (by decide) [] (λ(ls:List Nat) b hx hp=>qg (Ey (hp _ (q5l)) (Bnds.h1 hx).sl.1) rfl) (λ(ls:List Nat) hx hp=>by
 have hl0:ls.length<=1099511627776:=hx.1;have hp0: ∀u∈ls,u<4294967296:=hp _ (q5l)
 refine⟨.loop [.s 3 (.nat .i64) (.n 1099511627776)] (λ(k:Nat)=>k<=ls.length/\qd (ls.take k)=qd ls) (λ(k:Nat)=>k) (λ(k:Nat)=> .cond (.h 2 5 (.i .sub) (.cond (.h 3 1 (.i .sub) (.nil)) (.h 4 2 (.mag (qd ls) 70368744177664) (.nil)))) (.h 4 2 (.mag (qd ls) 70368744177664) (.nil))),kcast (by kernel_rfl) (I (⟨q5H _,by rw[q5t]⟩:ls.length<=ls.length/\qd (ls.take ls.length)=qd ls) (λ(k:Nat)(hb1:HB [.s 3 (.nat .i64) (.n 1099511627776)] k)(hC:k<=ls.length/\qd (ls.take k)=qd ls)=>have hv6:=(show k<=1099511627776 from hb1);have hk:=hC.1;Sp (0<k) (λh2=>I (?_:1<=k) (I (?_:k-1<ls.length) (Sp (ls.getD (k-1) 0=0) (λh3=>I (?_:1<=k) (q4P (⟨by omega,L8 hC.1 (by omega) hC.2 (by omega)⟩:k-1<=ls.length/\qd (ls.take (k-1))=qd ls) (?_:k-1<k))) (λh4=>I (?_:k<=ls.length) (I (B6 hp0 hC.1 hC.2 (by omega):ls.take k=limbs (qd ls)) (I (qj (by decide) (Ey hp0 hl0):qM (qd ls) 70368744177664) ((Eq.refl (qd ls))))))))) (λh5=>I (?_:k<=ls.length) (I (B6 hp0 hC.1 hC.2 (by omega):ls.take k=limbs (qd ls)) (I (qj (by decide) (Ey hp0 hl0):qM (qd ls) 70368744177664) ((Eq.refl (qd ls))))))))⟩<;>omega)
abbrev q2K:Ctr Tryz.prog:=FI.c TW
abbrev TV(b:List Bd)(ls:List Nat):WV:= .c (.one (.dt .mag (.n (32*(b0 b).len)) (qd ls)))
theorem Wt(ls:List Nat)(hx:Bnds [(.sl (.nat .u32))] [(.s 1099511627776 (.n 4294967295))] ls)(hp: ∀c0∈([∀u∈ls,u<4294967296]:List Prop),c0):Sig Tryz.prog 157 (argsE [(.sl (.nat .u32))] ls) (TV [(.s 1099511627776 (.n 4294967295))] ls).exp:=TW.sig ls hx hp
theorem Ws(b:List Bd)(x:Nat)(hx:Bnds [.mag] b x)(hp: ∀p∈([]:List Prop),p):(WV.c (.one (.dt .mag (b0 b) x))).ok:=qg (Bnds.h1 hx) rfl
theorem TU(x:Nat)(hx:Bnds [.mag] [.n 1099511627776] x)(hp: ∀p∈([]:List Prop),p):Sig Tryz.prog 157 (argsE [.mag] x) (WV.c (.one (.dt .mag (.n 1099511627776) x))).exp:=by
 have h:=Wt (limbs x) ⟨q5I (qu (q5F hx)) (by decide),(Bnd.limbs hx).2⟩ (by intro p hp;simp only[q5j,q5r,or_false]at hp;subst hp;exact vh x);unfold TV at h;rw[qY,<-EY]at h;exact h
def JY:Ctr Tryz.prog:=⟨157,[.mag],[.n 1099511627776],λz=>[],λb z=> .c (.one (.dt .mag (b0 b) z)),λz hx hp=>TU z hx hp,λ_ _=>rfl,λb z hx hp=>Ws b z hx hp⟩
abbrev q3s:FI:=⟨120,[.mag,.mag],[(.n 1099511627776),(.n 1099511627776)],λ_=>[],λb z=>(λ(x:Nat)(y:Nat)=> .c (.one (.dt (.int .i64) (.n 1) (j0 x y)))) z.1 z.2⟩
theorem q3t:q3s.OK Tryz.prog:=qI hmix 45 Tryz.func120 rfl rfl (by decide) [(157,.c JY)] (λ(x:Nat)(y:Nat) b hx hp=>qg (OE x y) rfl) (λ(x:Nat)(y:Nat) hx hp=>by
 have hx0:qM x 1099511627776:=hx.1;have hl0:(limbs x).length<=34359738369:=qu (q5F hx0);have hx1:qM y 1099511627776:=hx.2;have hl1:(limbs y).length<=34359738369:=qu (q5F hx1)
 refine⟨.cond (.nil) (.loop [.s 5 (.int .i64) (.n 68719476736)] (λ(z:Int)=>CmpI x y z) (λ(z:Int)=>(z+1).toNat) (λ(z:Int)=> .cond (.h 9 2 (.ix z.toNat) (.h 9 6 (.ix z.toNat) (.cond (.h 10 2 (.ix z.toNat) (.h 10 6 (.ix z.toNat) (.nil))) (.nil)))) (.nil))),kcast (by kernel_rfl) (Sp ((limbs x).length≠(limbs y).length) (λh1=>Sp ((limbs x).length<(limbs y).length) (λh2=>(?_:(-1)=j0 x y)) (λh3=>(?_:1=j0 x y))) (λh4=>I (CmpI.start (by omega):CmpI x y ((((limbs x).length:Nat):Int) -1)) (λ(z:Int)(hb5:HB [.s 5 (.int .i64) (.n 68719476736)] z)(hC:CmpI x y z)=>have hv12:=(show Int.natAbs z<=68719476736 from hb5);have hC0:=hC.h0;have hC1:=hC.h1;Sp (0<=z) (λh6=>I (?_:z=((z.toNat:Nat):Int)) (I (?_:z.toNat<(limbs x).length) (I (?_:z=((z.toNat:Nat):Int)) (I (?_:z.toNat<(limbs y).length) (Sp ((limbs x).getD z.toNat 0≠(limbs y).getD z.toNat 0) (λh7=>I (?_:z=((z.toNat:Nat):Int)) (I (?_:z.toNat<(limbs x).length) (I (?_:z=((z.toNat:Nat):Int)) (I (?_:z.toNat<(limbs y).length) (Sp ((limbs x).getD z.toNat 0<(limbs y).getD z.toNat 0) (λh8=>(?_:(-1)=j0 x y)) (λh9=>(?_:1=j0 x y))))))) (λh10=>I (show Int.natAbs (z-1)<=68719476736 by omega:Bnd (.int .i64) (.n 68719476736) (z-1)) (q4P ((hC.at (by omega) (by omega)).1 (by omega):CmpI x y (z-1)) (?_:((z-1)+1).toNat<(z+1).toNat)))))))) (λh11=>((hC.fin (by omega)).symm:0=j0 x y)))))⟩<;>first|omega|(first|exact(Mc (by omega)).symm|exact((hC.at (by omega) (by omega)).2.1 (by omega)).symm)|(first|exact(Md (by omega)).symm|exact((hC.at (by omega) (by omega)).2.2 (by omega)).symm))
abbrev q3r:Ctr Tryz.prog:=FI.c q3t
abbrev Zg:FI:=⟨160,[.mag],[(.n 1099511627776)],λz=>(λ(x:Nat)=>[(limbs x).length<=2]) z,λb z=>(λ(x:Nat)=> .c (.one (.dt (.nat .u64) (.n 18446744073709551615) x))) z⟩
theorem Zh:Zg.OK Tryz.prog:=qI hmix 21 Tryz.func160 rfl rfl (by decide) [] (λ(x:Nat) b hx hp=>qg (q5G (MX (hp _ (q5l)))) rfl) (λ(x:Nat) hx hp=>by
 have hx0:qM x 1099511627776:=hx;have hl0:(limbs x).length<=34359738369:=qu (q5F hx0);have hp0:(limbs x).length<=2:=hp _ (q5l)
 refine⟨.loop [.s 4 (.int .i64) (.n 68719476736),.s 3 (.nat .u64) (.n 18446744073709551615)] (λ((z,v):Int×Nat)=>WordZ x z v) (λ((z,v):Int×Nat)=>(z+1).toNat) (λ((z,v):Int×Nat)=> .cond (.h 5 1 (.i (.n (v*2^32) 18446744073709551615)) (.h 5 4 (.ix z.toNat) (.h 5 7 (.i (.n ((v*2^32)+((limbs x).getD z.toNat 0)) 18446744073709551615)) (.nil)))) (.nil)),kcast (by kernel_rfl) (I (WordZ.start x:WordZ x ((((limbs x).length:Nat):Int) -1) 0) (λ(z:Int)(v:Nat)(hb1:HB [.s 4 (.int .i64) (.n 68719476736),.s 3 (.nat .u64) (.n 18446744073709551615)] (z,v))(hI:WordZ x z v)=>have hv4:=(show Int.natAbs z<=68719476736 from hb1.1);have hv5:=(show v<=18446744073709551615 from hb1.2);have hB0:=hI.h0;have hB1:=hI.h1;Sp (0<=z) (λh2=>have hw:=hI.lt hp0 (by omega);I (Ry v 32 (by omega) (by omega):vO .shl .u64 (v:Int) 32 ((v*2^32:Nat):Int)) (I (?_:v*2^32<=18446744073709551615) (I (?_:z=((z.toNat:Nat):Int)) (I (?_:z.toNat<(limbs x).length) (I (X5 _ 32 rfl (qz _ _) (by have:=qz x z.toNat;omega):vO .or .u64 ((v*2^32:Nat):Int) (((limbs x).getD z.toNat 0:Nat):Int) (((v*2^32)+((limbs x).getD z.toNat 0):Nat):Int)) (I (by have:=qz x z.toNat;omega:(v*2^32)+((limbs x).getD z.toNat 0)<=18446744073709551615) (I (show Int.natAbs (z-1)<=68719476736 by omega:Bnd (.int .i64) (.n 68719476736) (z-1)) (q4P (hI.step (by omega):WordZ x (z-1) ((v*2^32)+((limbs x).getD z.toNat 0))) (?_:((z-1)+1).toNat<(z+1).toNat))))))))) (λh3=>(hI.fin (by omega):v=x))))⟩<;>omega)
abbrev Zf:Ctr Tryz.prog:=FI.c Zh
abbrev ZU:FI:=⟨165,[.mag],[(.n 1099511627776)],λz=>(λ(x:Nat)=>[(limbs x).length<=2]) z,λb z=>(λ(x:Nat)=> .c (.one (.dt (.nat .u64) (.n 18446744073709551615) x))) z⟩
theorem ZV:ZU.OK Tryz.prog:=qI hmix 21 Tryz.func165 rfl rfl (by decide) [] (λ(x:Nat) b hx hp=>qg (q5G (MX (hp _ (q5l)))) rfl) (λ(x:Nat) hx hp=>by
 have hx0:qM x 1099511627776:=hx;have hl0:(limbs x).length<=34359738369:=qu (q5F hx0);have hp0:(limbs x).length<=2:=hp _ (q5l)
 refine⟨.loop [.s 4 (.int .i64) (.n 68719476736),.s 3 (.nat .u64) (.n 18446744073709551615)] (λ((z,v):Int×Nat)=>WordZ x z v) (λ((z,v):Int×Nat)=>(z+1).toNat) (λ((z,v):Int×Nat)=> .cond (.h 5 1 (.i (.n (v*2^32) 18446744073709551615)) (.h 5 4 (.ix z.toNat) (.h 5 7 (.i (.n ((v*2^32)+((limbs x).getD z.toNat 0)) 18446744073709551615)) (.nil)))) (.nil)),kcast (by kernel_rfl) (I (WordZ.start x:WordZ x ((((limbs x).length:Nat):Int) -1) 0) (λ(z:Int)(v:Nat)(hb1:HB [.s 4 (.int .i64) (.n 68719476736),.s 3 (.nat .u64) (.n 18446744073709551615)] (z,v))(hI:WordZ x z v)=>have hv4:=(show Int.natAbs z<=68719476736 from hb1.1);have hv5:=(show v<=18446744073709551615 from hb1.2);have hB0:=hI.h0;have hB1:=hI.h1;Sp (0<=z) (λh2=>have hw:=hI.lt hp0 (by omega);I (Ry v 32 (by omega) (by omega):vO .shl .u64 (v:Int) 32 ((v*2^32:Nat):Int)) (I (?_:v*2^32<=18446744073709551615) (I (?_:z=((z.toNat:Nat):Int)) (I (?_:z.toNat<(limbs x).length) (I (X5 _ 32 rfl (qz _ _) (by have:=qz x z.toNat;omega):vO .or .u64 ((v*2^32:Nat):Int) (((limbs x).getD z.toNat 0:Nat):Int) (((v*2^32)+((limbs x).getD z.toNat 0):Nat):Int)) (I (by have:=qz x z.toNat;omega:(v*2^32)+((limbs x).getD z.toNat 0)<=18446744073709551615) (I (show Int.natAbs (z-1)<=68719476736 by omega:Bnd (.int .i64) (.n 68719476736) (z-1)) (q4P (hI.step (by omega):WordZ x (z-1) ((v*2^32)+((limbs x).getD z.toNat 0))) (?_:((z-1)+1).toNat<(z+1).toNat))))))))) (λh3=>(hI.fin (by omega):v=x))))⟩<;>omega)
abbrev PK:Ctr Tryz.prog:=FI.c ZV
abbrev of_i:FI:=⟨161,[(.nat .u64)],[(.n 18446744073709551615)],λ_=>[],λb z=>(λ(x:Nat)=> .c (.one (.dt .mag (.n (Nat.log2 (b0 b).nb+1)) (x)))) z⟩
theorem of_k:of_i.OK Tryz.prog:=qI hmix 10 Tryz.func161 rfl rfl (by decide) [] (λ(x:Nat) b hx hp=>qg (q5J (Bnds.h1 hx).nat Nat.lt_log2_self) rfl) (λ(x:Nat) hx hp=>by
 have hx0:x<=18446744073709551615:=hx
 refine⟨.h 1 5 (.mk (.im (.nat .u32) (.n 4294967295))) (.h 1 6 (.c q2K) (.nil)),kcast (by kernel_rfl) (I (by intro u hu;simp only[q5j,q5r,or_false]at hu;omega: ∀u∈[x%4294967296,x/2^32],u<4294967296) ((by simp only[qd];omega:qd [x%4294967296,x/2^32]=x)))⟩)
abbrev of_c:Ctr Tryz.prog:=FI.c of_k
abbrev Vt:FI:=⟨98,[(.sl (.nat .u32))],[(.s 1099511627776 (.n 4294967295))],λz=>(λ(ls:List Nat)=>[ls.length=0\/ls.getD (ls.length-1) 0≠0]) z,λb z=> .c (.one (.vl (.bool true)))⟩
theorem Vu:Vt.OK Tryz.prog:=qI hmix 15 Tryz.func98 rfl rfl (by decide) [] (λ(ls:List Nat) b hx hp=>AR rfl) (λ(ls:List Nat) hx hp=>by
 have hl0:ls.length<=1099511627776:=hx.1;have hp0:ls.length=0\/ls.getD (ls.length-1) 0≠0:=hp _ (q5l)
 refine⟨.cond (.nil) (.h 1 7 (.i .sub) (.nil)),kcast (by kernel_rfl) (Sp (ls.length=0) (λh1=>trivial) (λh2=>I (?_:1<=ls.length) (I (?_:ls.length-1<ls.length) ((?_:ls.getD (ls.length-1) 0≠0)))))⟩<;>omega)
abbrev Vs:Ctr Tryz.prog:=FI.c Vu
def tab8:ByteArray:=⟨#[0,1,2,2,3,3,3,3,4,4,4,4,4,4,4,4,5,5,5,5,5,5,5,5,5,5,5,5,5,5,5,5,6,6,6,6,6,6,6,6,6,6,6,6,6,6,6,6,6,6,6,6,6,6,6,6,6,6,6,6,6,6,6,6,7,7,7,7,7,7,7,7,7,7,7,7,7,7,7,7,7,7,7,7,7,7,7,7,7,7,7,7,7,7,7,7,7,7,7,7,7,7,7,7,7,7,7,7,7,7,7,7,7,7,7,7,7,7,7,7,7,7,7,7,7,7,7,7,8,8,8,8,8,8,8,8,8,8,8,8,8,8,8,8,8,8,8,8,8,8,8,8,8,8,8,8,8,8,8,8,8,8,8,8,8,8,8,8,8,8,8,8,8,8,8,8,8,8,8,8,8,8,8,8,8,8,8,8,8,8,8,8,8,8,8,8,8,8,8,8,8,8,8,8,8,8,8,8,8,8,8,8,8,8,8,8,8,8,8,8,8,8,8,8,8,8,8,8,8,8,8,8,8,8,8,8,8,8,8,8,8,8,8,8,8,8,8,8,8,8,8,8,8,8,8,8]⟩
abbrev Y2:FO:=⟨85,[(.sl (.nat .u32))],[(.s 1099511627776 (.n 4294967295))],λ_=>[],λk b z=>(λ(ls:List Nat)=> .c (.one (.gs k (ls.length) 1 ((b0 b).len)))) z,λb z=>(λ(ls:List Nat)=> .gro (.nat .u32) ((b0 b).e) (ls)) z⟩
theorem Y3:Y2.OK Tryz.prog:=mkO hmix 8 7 Tryz.func85 rfl rfl (by decide) [] (λ_=>rfl) (λ_ _ _=>rfl) (λ_ _=>rfl) (λ_ _ _=>⟨rfl,rfl⟩) (λ(ls:List Nat) k b hx hp=>⟨qg (Bnds.h1 hx).sl.1 rfl,(Bnds.h1 hx).sl.2⟩) (λ(ls:List Nat) hx hp=>by
 have hl0:ls.length<=1099511627776:=hx.1
 refine bodyO.g (.cond (.nil) (.h 3 0 (.mk (.gro (.nat .u32) (.n 4294967295))) (.nil))) (kcast (by kernel_rfl) (q4P (λ(h1:ls=[])=>q4P (h1.symm:([]:List Nat)=ls) ((by rw[h1];rfl:0=ls.length))) (I (rfl:0=([]:List Nat).length) (q4P (rfl:([]:List Nat)++ls=ls) ((?_:0+ls.length=ls.length))))))<;>omega)
abbrev Y1(k:Nat)(b:List Bd)(ls:List Nat):WV:= .c (.one (.gs k (ls.length) 1 ((b0 b).len)))
abbrev Y0(b:List Bd)(ls:List Nat):WB:= .gro (.nat .u32) ((b0 b).e) (ls)
theorem RD(d:Nat)(ls:List Nat)(hx:Bnds [(.sl (.nat .u32))] [(.s 1099511627776 (.n 4294967295))] ls)(hp: ∀c0∈([]:List Prop),c0):SigG Tryz.prog 85 (argsE [(.sl (.nat .u32))] ls) [] (Y1 d [(.s 1099511627776 (.n 4294967295))] ls).exp [(d,some (Y0 [(.s 1099511627776 (.n 4294967295))] ls).exp)]:=Y3.sig d ls hx hp
def Cn:Ctr Tryz.prog:=⟨85,[.sl (.nat .u32)],[.s 1099511627776 (.n 4294967295)],λz=>[],λb z=> .c (.one (.dt (.sl (.nat .u32)) (b0 b) z)),λz hx hp=>frzO (RD 0 z hx hp) (by decide) rfl _,λ_ _=>rfl,λb z hx hp=>qg (Bnds.h1 hx) rfl⟩
theorem Qe(x:Nat)(hx:Bnds [.mag] [.n 1099511627776] x):Sig Tryz.prog 85 (argsE [.mag] x) (WV.c (.one (.dt .mag (.n 1099511627776) x))).exp:=by
 have h:=Cn.sig (limbs x) ⟨q5I (qu (q5F hx)) (by decide),(Bnd.limbs hx).2⟩ (by intro p hp;cases hp);have e:(Cn.res Cn.bs (limbs x)).exp=(WV.c (.one (.dt .mag (.n 1099511627776) x))).exp:=magE x _ _;rw[e]at h;rw[EY];exact h
def GW:Ctr Tryz.prog:=⟨85,[.mag],[.n 1099511627776],λz=>[],λb z=> .c (.one (.dt .mag (b0 b) z)),λz hx hp=>Qe z hx,λ_ _=>rfl,λb z hx hp=>qg (Bnds.h1 hx) rfl⟩
theorem bl_8{x:Nat}(h:x<256):bl x<=8:=by
 have h1:=X6 x;rcases q5D x with e|e
 .subst e;decide
 .have h2:=Qc (n:=x) (by omega)
  apply q5G;apply Nat.lt_of_not_le;intro h3;have:=q5Z (show 0<2 by omega) (show 8<=bl x-1 by omega);omega
abbrev Z0:FI:=⟨158,[(.nat .u32)],[(.n 4294967295)],λ_=>[],λb z=>(λ(x:Nat)=> .c (.one (.dt (.nat .i64) (.n (Nat.log2 (b0 b).nb+1)) (bl x)))) z⟩
theorem Z1:Z0.OK Tryz.prog:=qI hmix 19 Tryz.func158 rfl rfl (by decide) [] (λ(x:Nat) b hx hp=>qg (q0K (Bnds.h1 hx).nat) rfl) (λ(x:Nat) hx hp=>by
 have hx0:x<=4294967295:=hx;have h1:65536<=x->bl x=bl (x/2^16)+16:=λh=>Cm (k:=16) h
 have h2:256<=x/2^16->bl (x/2^16)=bl (x/2^16/2^8)+8:=λh=>Cm (k:=8) h
 have h3:256<=x->bl x=bl (x/2^8)+8:=λh=>Cm (k:=8) h
 refine⟨.cond (.cond (.h 7 2 (.i (.n (((x/2^16)/2^8)%256) 255)) (.h 7 3 (.any [.c (.one (.vl (.string tab8))),.c (.one (.dt (.nat .u8) (.n 255) (((x/2^16)/2^8)%256)))] (.c (.one (.dt (.nat .u8) (.n 8) (bl (((x/2^16)/2^8)%256))))) (qg (bl_8 (q5O _ (by decide))) rfl) (Op.index 9 (.const (.string tab8)) (.tmp 15)) (λ_=>G6 (j:=(((x/2^16)/2^8)%256)) (by kernel_rfl) rfl (q5O _ (by decide)) (by kernel_rfl))) (.nil))) (.h 7 2 (.i (.n ((x/2^16)%256) 255)) (.h 7 3 (.any [.c (.one (.vl (.string tab8))),.c (.one (.dt (.nat .u8) (.n 255) ((x/2^16)%256)))] (.c (.one (.dt (.nat .u8) (.n 8) (bl ((x/2^16)%256))))) (qg (bl_8 (q5O _ (by decide))) rfl) (Op.index 9 (.const (.string tab8)) (.tmp 15)) (λ_=>G6 (j:=((x/2^16)%256)) (by kernel_rfl) rfl (q5O _ (by decide)) (by kernel_rfl))) (.nil)))) (.cond (.h 7 2 (.i (.n ((x/2^8)%256) 255)) (.h 7 3 (.any [.c (.one (.vl (.string tab8))),.c (.one (.dt (.nat .u8) (.n 255) ((x/2^8)%256)))] (.c (.one (.dt (.nat .u8) (.n 8) (bl ((x/2^8)%256))))) (qg (bl_8 (q5O _ (by decide))) rfl) (Op.index 9 (.const (.string tab8)) (.tmp 15)) (λ_=>G6 (j:=((x/2^8)%256)) (by kernel_rfl) rfl (q5O _ (by decide)) (by kernel_rfl))) (.nil))) (.h 7 2 (.i (.n (x%256) 255)) (.h 7 3 (.any [.c (.one (.vl (.string tab8))),.c (.one (.dt (.nat .u8) (.n 255) (x%256)))] (.c (.one (.dt (.nat .u8) (.n 8) (bl (x%256))))) (qg (bl_8 (q5O _ (by decide))) rfl) (Op.index 9 (.const (.string tab8)) (.tmp 15)) (λ_=>G6 (j:=(x%256)) (by kernel_rfl) rfl (q5O _ (by decide)) (by kernel_rfl))) (.nil)))),kcast (by kernel_rfl) (Sp (65536<=x) (λh1=>Sp (256<=x/2^16) (λh2=>I (Ir _:IntKind.wrap .u8 (((x/2^16)/2^8:Nat):Int)=((((x/2^16)/2^8)%256:Nat):Int)) (I (?_:((x/2^16)/2^8)%256<=255) (I (rfl:([.c (.one (.vl (.string tab8))),.c (.one (.dt (.nat .u8) (.n 255) (((x/2^16)/2^8)%256)))]:List WV)=[.c (.one (.vl (.string tab8))),.c (.one (.dt (.nat .u8) (.n 255) (((x/2^16)/2^8)%256)))]) (I (rfl:(Op.index 9 (.const (.string tab8)) (.tmp 15):Op)=Op.index 9 (.const (.string tab8)) (.tmp 15)) ((by rw[q5N (show((x/2^16)/2^8)<256 by omega)];omega:24+(bl (((x/2^16)/2^8)%256))=bl x)))))) (λh3=>I (Ir _:IntKind.wrap .u8 ((x/2^16:Nat):Int)=(((x/2^16)%256:Nat):Int)) (I (?_:(x/2^16)%256<=255) (I (rfl:([.c (.one (.vl (.string tab8))),.c (.one (.dt (.nat .u8) (.n 255) ((x/2^16)%256)))]:List WV)=[.c (.one (.vl (.string tab8))),.c (.one (.dt (.nat .u8) (.n 255) ((x/2^16)%256)))]) (I (rfl:(Op.index 9 (.const (.string tab8)) (.tmp 15):Op)=Op.index 9 (.const (.string tab8)) (.tmp 15)) ((by rw[q5N (show(x/2^16)<256 by omega)];omega:16+(bl ((x/2^16)%256))=bl x))))))) (λh4=>Sp (256<=x) (λh5=>I (Ir _:IntKind.wrap .u8 ((x/2^8:Nat):Int)=(((x/2^8)%256:Nat):Int)) (I (?_:(x/2^8)%256<=255) (I (rfl:([.c (.one (.vl (.string tab8))),.c (.one (.dt (.nat .u8) (.n 255) ((x/2^8)%256)))]:List WV)=[.c (.one (.vl (.string tab8))),.c (.one (.dt (.nat .u8) (.n 255) ((x/2^8)%256)))]) (I (rfl:(Op.index 9 (.const (.string tab8)) (.tmp 15):Op)=Op.index 9 (.const (.string tab8)) (.tmp 15)) ((by rw[q5N (show(x/2^8)<256 by omega)];omega:8+(bl ((x/2^8)%256))=bl x)))))) (λh6=>I (Ir _:IntKind.wrap .u8 (x:Int)=((x%256:Nat):Int)) (I (?_:x%256<=255) (I (rfl:([.c (.one (.vl (.string tab8))),.c (.one (.dt (.nat .u8) (.n 255) (x%256)))]:List WV)=[.c (.one (.vl (.string tab8))),.c (.one (.dt (.nat .u8) (.n 255) (x%256)))]) (I (rfl:(Op.index 9 (.const (.string tab8)) (.tmp 15):Op)=Op.index 9 (.const (.string tab8)) (.tmp 15)) ((by rw[q5N (show x<256 by omega)];omega:0+(bl (x%256))=bl x))))))))⟩<;>omega)
abbrev YZ:Ctr Tryz.prog:=FI.c Z1
abbrev q0I:FI:=⟨99,[.mag],[(.n 1099511627776)],λ_=>[],λb z=>(λ(x:Nat)=> .c (.one (.dt (.nat .i64) (b0 b) (bl x)))) z⟩
theorem q0J:q0I.OK Tryz.prog:=qI hmix 20 Tryz.func99 rfl rfl (by decide) [(157,.c JY),(158,.c YZ)] (λ(x:Nat) b hx hp=>qg (RB (Bnds.h1 hx)) rfl) (λ(x:Nat) hx hp=>by
 have hx0:qM x 1099511627776:=hx;have hl0:(limbs x).length<=34359738369:=qu (q5F hx0)
 refine⟨.cond (.nil) (.h 4 2 (.i .sub) (.h 4 7 (.i .sub) (.nil))),kcast (by kernel_rfl) (Sp ((limbs x).length=0) (λh1=>(by have:=(nl0 (x:=x)).1 (by omega);subst this;rfl:0=bl x)) (λh2=>have hpos:=(show 0<(limbs x).length by omega);have hBB:=OB hpos;I (?_:1<=(limbs x).length) (I (?_:1<=(limbs x).length) (I (?_:((limbs x).length) -1<(limbs x).length) ((?_:(32*(((limbs x).length) -1))+(bl ((limbs x).getD (((limbs x).length) -1) 0))=bl x))))))⟩<;>omega)
abbrev HX:Ctr Tryz.prog:=FI.c q0J
abbrev q3C:FI:=⟨100,[.mag,.mag],[(.n 64),(.n 64)],λ_=>[],λb z=>(λ(x:Nat)(y:Nat)=> .c (.one (.dt .mag (.n (max (b0 b).nb (b1 b).nb)) (Nat.gcd x y)))) z.1 z.2⟩
theorem q3D:q3C.OK Tryz.prog:=qI hmix 61 Tryz.func100 rfl rfl (by decide) [(85,.c GW),(157,.c JY),(160,.c Zf),(161,.c of_c)] (λ(x:Nat)(y:Nat) b hx hp=>qg (Pc (Bnds.h2 hx).1.mag (Bnds.h2 hx).2.mag) rfl) (λ(x:Nat)(y:Nat) hx hp=>by
 have hx0:qM x 64:=hx.1;have hl0:(limbs x).length<=3:=qu (q5F hx0);have hx1:qM y 64:=hx.2;have hl1:(limbs y).length<=3:=qu (q5F hx1)
 refine⟨.loop [.s 5 .mag (.n 64),.s 6 .mag (.n 64)] (λ((a,b):Nat×Nat)=>a=x/\b=y) (λ((a,b):Nat×Nat)=>0) (λ((a,b):Nat×Nat)=> .cond (.dead) (.cond (.nil) (.cond (.dead) (.loop [.s 13 (.nat .u64) (.n 18446744073709551615),.s 14 (.nat .u64) (.n 18446744073709551615)] (λ((u,v):Nat×Nat)=>Nat.gcd u v=Nat.gcd x y) (λ((u,v):Nat×Nat)=>v) (λ((u,v):Nat×Nat)=> .nil))))),kcast (by kernel_rfl) (I (⟨rfl,rfl⟩:x=x/\y=y) (λ(a:Nat)(b:Nat)(hb1:HB [.s 5 .mag (.n 64),.s 6 .mag (.n 64)] (a,b))(hC:a=x/\b=y)=>have ha2:=(nl64 (by rw[hC.1];exact hx0):(limbs a).length<=2);have hb2:=(nl64 (by rw[hC.2];exact hx1):(limbs b).length<=2);Sp (2<(limbs b).length) (λh2=>(absurd hb2 (by omega):False)) (λh3=>Sp ((limbs b).length=0) (λh4=>(by have e:=nl0.1 (show(limbs b).length=0 by omega);rw[<-hC.1,<-hC.2,e,Nat.gcd_zero_right]:a=Nat.gcd x y)) (λh5=>Sp (2<(limbs a).length) (λh6=>(absurd ha2 (by omega):False)) (λh7=>I (ha2:(limbs a).length<=2) (I (hb2:(limbs b).length<=2) (I (by rw[hC.1,hC.2]:Nat.gcd a b=Nat.gcd x y) (λ(u:Nat)(v:Nat)(hb8:HB [.s 13 (.nat .u64) (.n 18446744073709551615),.s 14 (.nat .u64) (.n 18446744073709551615)] (u,v))(hK:Nat.gcd u v=Nat.gcd x y)=>have hv11:=(show u<=18446744073709551615 from hb8.1);have hv12:=(show v<=18446744073709551615 from hb8.2);Sp (v≠0) (λh9=>I (?_:0<v) (q4P ((H9 u v).trans hK:Nat.gcd v (u%v)=Nat.gcd x y) (q5O _ (by omega):u%v<v))) (λh10=>(by rw[show v=0 by omega,Nat.gcd_zero_right]at hK;exact hK:u=Nat.gcd x y))))))))))⟩<;>omega)
abbrev gcd_c:Ctr Tryz.prog:=FI.c q3D
abbrev q29:FI:=⟨126,[],[],λ_=>[],λb z=> .c (.one (.dt .mag (.n (1)) (1)))⟩
theorem q2a:q29.OK Tryz.prog:=qI hmix 2 Tryz.func126 rfl rfl (by decide) [] (λ b hx hp=>qg (JE rfl) rfl) (λ hx hp=>by
 refine⟨.h 1 0 (.mk (.im (.nat .u32) (.n 4294967295))) (.h 1 1 (.mag 1 1) (.nil)),kcast (by kernel_rfl) (I (Au.symm:[1]=limbs 1) (I (JE rfl:qM 1 1) ((Eq.refl 1))))⟩)
abbrev Tx:Ctr Tryz.prog:=FI.c q2a
abbrev ZQ:FI:=⟨125,[(.int .i64)],[(.n 9223372036854775807)],λ_=>[],λb z=>(λ(v:Int)=> .c (.one (.dt .mag (.n (Nat.log2 (b0 b).nb+1)) (v.natAbs)))) z⟩
theorem ZR:ZQ.OK Tryz.prog:=qI hmix 12 Tryz.func125 rfl rfl (by decide) [(161,.c of_c)] (λ(v:Int) b hx hp=>qg (Aw (Bnds.h1 hx).int) rfl) (λ(v:Int) hx hp=>by
 have hx0:Int.natAbs v<=9223372036854775807:=hx
 refine⟨.cond (.dead) (.h 3 4 (.i (.n v.natAbs 9223372036854775807)) (.nil)),kcast (by kernel_rfl) (Sp (v=(-9223372036854775808)) (λh1=>(?_:False)) (λh2=>I (by rw[show max v (-v)=((v.natAbs:Nat):Int) by omega];exact BI (by omega):IntKind.wrap .u64 (max v (-v))=((v.natAbs:Nat):Int)) (I (?_:v.natAbs<=9223372036854775807) ((Eq.refl v.natAbs)))))⟩<;>omega)
abbrev PJ:Ctr Tryz.prog:=FI.c ZR
abbrev q1V:FI:=⟨109,[.rat],[(.n 1099511627776)],λ_=>[],λb z=>(λ(x:Rat)=> .c (.one (.dt .mag (.n ((b0 b).nb+1)) (x.den)))) z⟩
theorem q1W:q1V.OK Tryz.prog:=qI hmix 10 Tryz.func109 rfl rfl (by decide) [(126,.c Tx)] (λ(x:Rat) b hx hp=>qg (wO (Bnds.h1 hx).rat.2) rfl) (λ(x:Rat) hx hp=>by
 have hx0:Bnd .rat (.n 1099511627776) x:=hx
 refine⟨.cond (.nil) (.h 3 2 (.mag x.den 1099511627777) (.nil)),kcast (by kernel_rfl) (Sp ((denL x.den).length=0) (λh1=>((Cq x.den_nz (by omega)).symm:1=x.den)) (λh2=>I (BM (by omega):denL x.den=limbs x.den) (I (wO hx0.2:qM x.den 1099511627777) ((Eq.refl x.den)))))⟩)
abbrev q1U:Ctr Tryz.prog:=FI.c q1W
abbrev q1Y:FI:=⟨166,[(.nat .u64),(.nat .u64)],[(.n 18446744073709551615),(.n 18446744073709551615)],λ_=>[],λb z=>(λ(n:Nat)(d:Nat)=> .c (.one (.dt (.nat .u64) (.n (max (b0 b).nb (b1 b).nb)) (Nat.gcd n d)))) z.1 z.2⟩
theorem q1Z:q1Y.OK Tryz.prog:=qI hmix 12 Tryz.func166 rfl rfl (by decide) [] (λ(n:Nat)(d:Nat) b hx hp=>qg (Yy (Bnds.h2 hx).1.nat (Bnds.h2 hx).2.nat) rfl) (λ(n:Nat)(d:Nat) hx hp=>by
 have hx0:n<=18446744073709551615:=hx.1;have hx1:d<=18446744073709551615:=hx.2
 refine⟨.loop [.s 0 (.nat .u64) (.n 18446744073709551615),.s 1 (.nat .u64) (.n 18446744073709551615)] (λ((u,v):Nat×Nat)=>Nat.gcd u v=Nat.gcd n d) (λ((u,v):Nat×Nat)=>v) (λ((u,v):Nat×Nat)=> .nil),kcast (by kernel_rfl) (I (rfl:Nat.gcd n d=Nat.gcd n d) (λ(u:Nat)(v:Nat)(hb1:HB [.s 0 (.nat .u64) (.n 18446744073709551615),.s 1 (.nat .u64) (.n 18446744073709551615)] (u,v))(hK:Nat.gcd u v=Nat.gcd n d)=>have hv4:=(show u<=18446744073709551615 from hb1.1);have hv5:=(show v<=18446744073709551615 from hb1.2);Sp (v≠0) (λh2=>I (?_:0<v) (q4P ((H9 u v).trans hK:Nat.gcd v (u%v)=Nat.gcd n d) (q5O _ (by omega):u%v<v))) (λh3=>(by rw[show v=0 by omega,Nat.gcd_zero_right]at hK;exact hK:u=Nat.gcd n d))))⟩<;>omega)
abbrev q1X:Ctr Tryz.prog:=FI.c q1Z
abbrev W6:FV:=⟨167,false,(.nat .u32),(.n 4294967295),1099511627776,[(.nat .u64)],[(.n 18446744073709551615)],λl lo n cap z=>(λ(v:Nat)=>[2<=n,lo+2<=l.length,v<=18446744073709551615]) z,λk b l lo n cap z=>(λ(v:Nat)=> .c (.one (.dt (.nat .i64) (.n 2) (nlw v)))) z,λl lo n cap z=>(λ(v:Nat)=>vi l lo v) z⟩
theorem W7:W6.OK Tryz.prog:=mkSl hmix 17 Tryz.func167 rfl rfl (by decide) [] (λ_=>rfl) (λ_ _ _ _ _=>rfl) (λ_ _ _ _ _ _ _=>rfl) (λ_ _ _ _ _ _=>rfl) (λ(l:List Nat)(lo n cap:Nat)(v:Nat) k b hx hs hn(hm:n<=1099511627776) hp=>⟨qg (MY v).2 rfl,VX (hp _ (q5k _ (q5k _ q5l))) hs⟩) (λ(l:List Nat)(lo n cap:Nat)(v:Nat) hs hx hn(hm:n<=1099511627776) hp=>by
 have hx0:v<=18446744073709551615:=hx;have hp0:2<=n:=hp _ (q5l);have hp1:lo+2<=l.length:=hp _ (q5k _ (q5l));have hp2:v<=18446744073709551615:=hp _ (q5k _ (q5k _ (q5l)))
 refine⟨.nil,kcast (by kernel_rfl) (I (?_:0<n) (I (?_:lo+0<l.length) (Sp (v/2^32=0) (λh1=>q4P (by rw[vi,if_pos (by assumption)]:l.set (lo+0) (v%4294967296)=vi l lo v) ((by rw[nlw,if_pos (by assumption)]:1=nlw v))) (λh2=>I (?_:1<n) (I (by simp only[List.length_set];omega:lo+1<(l.set (lo+0) (v%4294967296)).length) (q4P (by rw[vi,if_neg (by assumption)]:(l.set (lo+0) (v%4294967296)).set (lo+1) (v/2^32)=vi l lo v) ((by rw[nlw,if_neg (by assumption)]:2=nlw v))))))))⟩<;>omega)
abbrev W5:CtrS Tryz.prog:=FV.c W7
abbrev q01:FI:=⟨122,[.bool,(.nat .u64),(.nat .u64)],[.u,(.n 18446744073709551615),(.n 18446744073709551615)],λz=>(λ(neg:Bool)(n:Nat)(d:Nat)=>[0<d]) z.1 z.2.1 z.2.2,λb z=>(λ(neg:Bool)(n:Nat)(d:Nat)=> .c (.agg [.dt .rat (.n (max (Nat.log2 (b1 b).nb+1) (Nat.log2 (b2 b).nb+1))) (qr neg n d)])) z.1 z.2.1 z.2.2⟩
theorem q02:q01.OK Tryz.prog:=qI hmix 50 Tryz.func122 rfl rfl (by decide) [(166,.c q1X),(167,.s W5)] (λ(neg:Bool)(n:Nat)(d:Nat) b hx hp=>v8 (jo (qj (Nat.le_max_left _ _) (Aw (Bnds.h3 hx).2.1.nat)) (jJ (qj (Nat.le_max_right _ _) (Aw (Bnds.h3 hx).2.2.nat))) (hp _ q5l))) (λ(neg:Bool)(n:Nat)(d:Nat) hx hp=>by
 have hx1:n<=18446744073709551615:=hx.2.1;have hx2:d<=18446744073709551615:=hx.2.2;have hp0:0<d:=hp _ (q5l)
 refine⟨.cond (.nil) ((λ(g:Nat)=>(λ(n1:Nat)=>(λ(d1:Nat)=> .h 5 0 (.mk (.arr (.nat .u32) (.n 4294967295))) ((λ(a:Nat)=> .cond ((λ(b:Nat)=> .pre 11 (.frz 24 false []) (.h 11 0 (.rat (qr neg n d) 64) (.nil))) (a+(nlw d1))) (.pre 11 (.frz 24 false []) (.h 11 0 (.rat (qr neg n d) 64) (.nil)))) (nlw n1))) (d/g)) (n/g)) (Nat.gcd n d)),kcast (by kernel_rfl) (q4P (λ(h1:n=0)=>(by rw[show n=0 by omega,B4]:0=qr neg n d)) (λ(h2: ¬(n=0))=>(λ(g:Nat)(hg:g=Nat.gcd n d)=>have hg0:=(show 0<g from hg▸Nat.gcd_pos_of_pos_right _ hp0);I (by omega:0<g) (I (by omega:0<g) ((λ(n1:Nat)(hn1:n1=n/g)=>(λ(d1:Nat)(hd1:d1=d/g)=>have hn0:=(show 0<n1 from by rw[hn1,hg];exact Nat.div_pos (Nat.gcd_le_left _ (by omega)) (hg▸hg0));have hd0:=(show 0<d1 from by rw[hd1,hg];exact Nat.div_pos (Nat.gcd_le_right _ (by omega)) (hg▸hg0));have hn9:=(show n1<=18446744073709551615 from by rw[hn1];exact q5I (q5A _ _) hx1);have hd9:=(show d1<=18446744073709551615 from by rw[hd1];exact q5I (q5A _ _) hx2);I (by omega:2<=4) (I (by simp:0+2<=(List.replicate 4 (0:Nat)).length) (I (by omega:n1<=18446744073709551615) ((λ(a:Nat)(ha:a=nlw n1)=>have ha1:=(show 1<=a/\a<=2 from by rw[ha];exact MY n1);have hL:=(show(vi (List.replicate 4 (0:Nat)) 0 n1).length=4 from Nj _ _ _);I (by omega:a<=4) (I (by omega:a=a) (q4P (λ(h3:1<d1)=>I (by omega:a<=4) (I (by omega:a<4) (I (by omega:2<=4-a) (I (by omega:a+2<=(vi (List.replicate 4 (0:Nat)) 0 n1).length) (I (by omega:d1<=18446744073709551615) ((λ(b:Nat)(hb:b=a+(nlw d1))=>have hb1:=MY d1;have hL2:=(show(vi (vi (List.replicate 4 (0:Nat)) 0 n1) a d1).length=4 from(Nj _ _ _).trans hL);I (by omega:a<b) (I (by omega:b<=4) (I (by omega:b=b) (I (by omega:a<=(vi (vi (List.replicate 4 (0:Nat)) 0 n1) a d1).length) (I (by omega:a+(b-a)<=(vi (vi (List.replicate 4 (0:Nat)) 0 n1) a d1).length) (I ((za (by omega) hp0).symm:neg=decide ((qr neg n d).num<0)) (I (by rw[vw hp0,<-hg,<-hn1];subst ha;first|exact NA hn0 hn9|exact PO hn0 hn9:(vi (vi (List.replicate 4 (0:Nat)) 0 n1) a d1).take a=limbs ((qr neg n d).num.natAbs)) (I (by rw[(jK hp0).2,<-hg,<-hd1,denL,if_neg (by omega)];subst hb ha;exact q00 hd0 hd9:((vi (vi (List.replicate 4 (0:Nat)) 0 n1) a d1).drop a).take (b-a)=denL (qr neg n d).den) (I (by rw[vw hp0,<-hg,<-hn1];exact q5J hn9 (by decide):qM (qr neg n d).num.natAbs 64) (I (by rw[(jK hp0).2,<-hg,<-hd1];exact q5I hd9 (by decide):le2 (qr neg n d).den 64) ((Eq.refl (qr neg n d))))))))))))) (a+(nlw d1)) rfl)))))) (λ(h4: ¬(1<d1))=>I (by omega:a<=(vi (List.replicate 4 (0:Nat)) 0 n1).length) (I ((za (by omega) hp0).symm:neg=decide ((qr neg n d).num<0)) (I (by rw[vw hp0,<-hg,<-hn1];subst ha;first|exact NA hn0 hn9|exact PO hn0 hn9:(vi (List.replicate 4 (0:Nat)) 0 n1).take a=limbs ((qr neg n d).num.natAbs)) (I (by rw[(jK hp0).2,<-hg,<-hd1];omega:(qr neg n d).den=1) (I (by rw[vw hp0,<-hg,<-hn1];exact q5J hn9 (by decide):qM (qr neg n d).num.natAbs 64) (I (by rw[(jK hp0).2,<-hg,<-hd1];exact q5I hd9 (by decide):le2 (qr neg n d).den 64) ((Eq.refl (qr neg n d)))))))))))) (nlw n1) rfl)))) (d/g) rfl) (n/g) rfl))) (Nat.gcd n d) rfl))⟩)
abbrev Gv:Ctr Tryz.prog:=FI.c q02
abbrev Zt:FI:=⟨118,[.rat],[(.n 1099511627776)],λ_=>[],λb z=>(λ(x:Rat)=> .tup [.one (.dt (.nat .u64) (.n 4294967295) (pn x)),.one (.dt (.nat .u64) (.n 4294967295) (pd x)),.one (.dt .bool .u (pb x))]) z⟩
theorem Zu:Zt.OK Tryz.prog:=qI hmix 30 Tryz.func118 rfl rfl (by decide) [(165,.c PK)] (λ(x:Rat) b hx hp=>jB (qg (IM x) rfl) (jB (qg (IL x) rfl) (jB (qg trivial rfl) wW))) (λ(x:Rat) hx hp=>by
 refine⟨.nil,kcast (by kernel_rfl) (Sp (1<(limbs x.num.natAbs).length) (λh1=>q4P ((Gi (by first|exact .inl (by assumption)|exact .inr (by assumption))).1:0=pn x) (q4P ((Gi (by first|exact .inl (by assumption)|exact .inr (by assumption))).2.1:0=pd x) ((Gi (by first|exact .inl (by assumption)|exact .inr (by assumption))).2.2:false=pb x))) (λh2=>Sp (1<(denL x.den).length) (λh3=>q4P ((Gi (by first|exact .inl (by assumption)|exact .inr (by assumption))).1:0=pn x) (q4P ((Gi (by first|exact .inl (by assumption)|exact .inr (by assumption))).2.1:0=pd x) ((Gi (by first|exact .inl (by assumption)|exact .inr (by assumption))).2.2:false=pb x))) (λh4=>have hs:=p_sm (x:=x) (by unfold bigQ;omega);Sp ((denL x.den).length=1) (λh5=>I (?_:0<(denL x.den).length) (I (?_:(limbs x.num.natAbs).length<=2) (q4P (hs.1:x.num.natAbs=pn x) (q4P (by have:=hs.2.1;have:= @RR x.den (by omega);omega:(denL x.den).getD 0 0=pd x) (by rw[hs.2.2];have:= @RR x.den (by omega);have:=x.den_nz;exact decide_eq_true (by omega):decide ((denL x.den).getD 0 0≠0)=pb x))))) (λh6=>I (?_:(limbs x.num.natAbs).length<=2) (q4P (hs.1:x.num.natAbs=pn x) (q4P (by rw[<-hs.2.1];exact(Cq x.den_nz (by omega)).symm:1=pd x) (by rw[hs.2.2]:true=pb x)))))))⟩<;>omega)
abbrev Gj:Ctr Tryz.prog:=FI.c Zu
abbrev W1:FI:=⟨123,[.bool,.mag,.mag],[.u,(.n 64),(.n 64)],λ_=>[],λb z=>(λ(neg:Bool)(n:Nat)(d:Nat)=> .c (.agg [.dt .rat (.n (max (b1 b).nb (b2 b).nb)) (qr neg n d)])) z.1 z.2.1 z.2.2⟩
theorem W2:W1.OK Tryz.prog:=qI hmix 68 Tryz.func123 rfl rfl (by decide) [(99,.c HX),(122,.c Gv),(165,.c PK)] (λ(neg:Bool)(n:Nat)(d:Nat) b hx hp=>v8 (Hx (qj (Nat.le_max_left _ _) (Bnds.h3 hx).2.1.mag) (qj (Nat.le_max_right _ _) (Bnds.h3 hx).2.2.mag))) (λ(neg:Bool)(n:Nat)(d:Nat) hx hp=>by
 have hx1:qM n 64:=hx.2.1;have hl1:(limbs n).length<=3:=qu (q5F hx1);have hx2:qM d 64:=hx.2.2;have hl2:(limbs d).length<=3:=qu (q5F hx2);have hn2:=nl64 hx1;have hd2:=nl64 hx2
 refine⟨.cond (.nil) (.cond (.nil) (.cond (.cond (.nil) (.dead)) (.dead))),kcast (by kernel_rfl) (q4P (λ(h1:bl n=0)=>(?_:0=qr neg n d)) (λ(h2: ¬(bl n=0))=>q4P (λ(h3:bl d=0)=>(?_:0=qr neg n d)) (λ(h4: ¬(bl d=0))=>have hn0:=(show 0<n from q5X (mt Cl.2 (by omega)));have hd0:=(show 0<d from q5X (mt Cl.2 (by omega)));q4P (λ(h5:(limbs n).length<=2)=>q4P (λ(h6:(limbs d).length<=2)=>I (?_:(limbs n).length<=2) (I (?_:(limbs d).length<=2) (I (?_:0<d) ((Eq.refl (qr neg n d)))))) (λ(h7: ¬((limbs d).length<=2))=>(?_:False))) (λ(h8: ¬((limbs n).length<=2))=>(?_:False)))))⟩<;>first|omega|(first|rw[Cl.1 (show bl n=0 by omega),B4]|rw[Cl.1 (show bl d=0 by omega),Nx]))
abbrev Nm:Ctr Tryz.prog:=FI.c W2
abbrev q3x:FI:=⟨119,[(.sl (.nat .u32)),(.sl (.nat .u32))],[(.s 1099511627776 (.n 4294967295)),(.s 1099511627776 (.n 4294967295))],λ_=>[],λb z=>(λ(l:List Nat)(m:List Nat)=> .c (.one (.dt .bool .u (decide (l=m))))) z.1 z.2⟩
theorem q3y:q3x.OK Tryz.prog:=qI hmix 26 Tryz.func119 rfl rfl (by decide) [] (λ(l:List Nat)(m:List Nat) b hx hp=>qg trivial rfl) (λ(l:List Nat)(m:List Nat) hx hp=>by
 have hl0:l.length<=1099511627776:=hx.1.1;have hl1:m.length<=1099511627776:=hx.2.1
 refine⟨.cond (.nil) (.loop [.s 13 (.nat .i64) (.n 1099511627776)] (λ(i:Nat)=>i<=l.length/\l.take i=m.take i) (λ(i:Nat)=>l.length-i) (λ(i:Nat)=> .nil)),kcast (by kernel_rfl) (Sp (l.length≠m.length) (λh1=>((decide_eq_false (by first|exact(Ji (by omega) hC.2 (by omega)).2 (by omega)|exact λe=>absurd (congrArg List.length e) (by assumption))).symm:false=decide (l=m))) (λh2=>I (⟨q64 _,rfl⟩:0<=l.length/\l.take 0=m.take 0) (λ(i:Nat)(hb3:HB [.s 13 (.nat .i64) (.n 1099511627776)] i)(hC:i<=l.length/\l.take i=m.take i)=>have hv8:=(show i<=1099511627776 from hb3);Sp (i<l.length) (λh4=>I (?_:i<l.length) (I (?_:i<m.length) (Sp (l.getD i 0≠m.getD i 0) (λh5=>((decide_eq_false (by first|exact(Ji (by omega) hC.2 (by omega)).2 (by omega)|exact λe=>absurd (congrArg List.length e) (by assumption))).symm:false=decide (l=m))) (λh6=>I (show(i+1)<=1099511627776 by omega:Bnd (.nat .i64) (.n 1099511627776) (i+1)) (q4P (⟨by omega,(Ji (by omega) hC.2 (by omega)).1 (by omega)⟩:(i+1)<=l.length/\l.take (i+1)=m.take (i+1)) (?_:l.length-(i+1)<l.length-i)))))) (λh7=>((decide_eq_true (by have:=hC.2;rwa [q5u (by omega),q5u (by omega)]at this)).symm:true=decide (l=m))))))⟩<;>omega)
abbrev Xk:Ctr Tryz.prog:=FI.c q3y
abbrev ZP:FI:=⟨59,[.rat],[(.n 31)],λ_=>[],λb z=>(λ(x:Rat)=> .c (.one (.dt (.int .i64) (.n 1) (qO x)))) z⟩
theorem PH:ZP.OK Tryz.prog:=qI hmix 11 Tryz.func59 rfl rfl (by decide) [(99,.c HX)] (λ(x:Rat) b hx hp=>qg (Nz x) rfl) (λ(x:Rat) hx hp=>by
 refine⟨.nil,kcast (by kernel_rfl) (Sp (bl x.num.natAbs=0) (λh1=>(by rw[qO,if_pos (Cl.1 (by omega))]:0=qO x)) (λh2=>Sp (x.num<0) (λh3=>(by rw[qO,if_neg (λe=>absurd (Cl.2 e) (by omega)),if_pos (by assumption)]:(-1)=qO x)) (λh4=>(by rw[qO,if_neg (λe=>absurd (Cl.2 e) (by omega)),if_neg (by assumption)]:1=qO x))))⟩)
abbrev JP:Ctr Tryz.prog:=FI.c PH
abbrev q21:FI:=⟨73,[(.int .i64)],[(.n 9223372036854775807)],λ_=>[],λb z=>(λ(v:Int)=> .c (.agg [.dt .rat (.n (Nat.log2 (b0 b).nb+1)) ((v:Rat))])) z⟩
theorem q22:q21.OK Tryz.prog:=qI hmix 9 Tryz.func73 rfl rfl (by decide) [(123,.c Nm),(125,.c PJ),(126,.c Tx)] (λ(v:Int) b hx hp=>v8 (DB (Bnds.h1 hx).int)) (λ(v:Int) hx hp=>by
 refine⟨.nil,kcast (by kernel_rfl) ((PN v:qr (decide (v<0)) v.natAbs 1=(v:Rat)))⟩)
abbrev q28:FI:=⟨75,[.rat,.rat],[(.n 31),(.n 31)],λ_=>[],λb z=>(λ(x:Rat)(y:Rat)=> .c (.agg [.dt .rat (.n ((b0 b).nb+(b1 b).nb)) (x*y)])) z.1 z.2⟩
theorem Tw:q28.OK Tryz.prog:=qI hmix 64 Tryz.func75 rfl rfl (by decide) [(118,.c Gj),(122,.c Gv)] (λ(x:Rat)(y:Rat) b hx hp=>v8 (Dp (Bnds.h2 hx).1 (Bnds.h2 hx).2)) (λ(x:Rat)(y:Rat) hx hp=>by
 have hx0:Bnd .rat (.n 31) x:=hx.1;have hx1:Bnd .rat (.n 31) y:=hx.2
 refine⟨.cond (.nil) (.cond (.nil) (.cond (.cond (.nil) (.dead)) (.dead))),kcast (by kernel_rfl) (Sp ((limbs x.num.natAbs).length=0) (λh1=>(?_:0=x*y)) (λh2=>Sp ((limbs y.num.natAbs).length=0) (λh3=>(?_:0=x*y)) (λh4=>Sp (pb x=true) (λh5=>Sp (pb y=true) (λh6=>have hpx:=D7 (x:=x) (by assumption);have hpy:=D7 (x:=y) (by assumption);I (q5W hpx.2.2 hpy.2.2:0<(pd x)*(pd y)) ((?_:qr (decide ((decide (x.num<0))≠(decide (y.num<0)))) ((pn x)*(pn y)) ((pd x)*(pd y))=x*y))) (λh7=>(absurd (De hx1) h7:False))) (λh8=>(absurd (De hx0) h8:False)))))⟩<;>first|(first|rw[wF (nl0.1 (show(limbs x.num.natAbs).length=0 by omega)),Rat.zero_mul]|rw[wF (nl0.1 (show(limbs y.num.natAbs).length=0 by omega)),Rat.mul_zero])|(first|exact DN x y|(rw[hpx.1,hpy.1,hpx.2.1,hpy.2.1];exact DN x y)))
abbrev q27:Ctr Tryz.prog:=FI.c Tw
def X1:Array Value->Sem Value:=λargs=>do
 let(x,y,c)<-Extern.MathBitsCarry.three "Add64" args
 pure (Extern.MathBitsCarry.pair ((x+y+c)%Extern.MathBitsCarry.m64) ((x+y+c)/Extern.MathBitsCarry.m64))
theorem UL:Extern.findNext Tryz.f169=none:=by kernel_rfl
theorem Yp:Extern.find Tryz.f169=some X1:=by kernel_rfl
theorem TA(a b:Nat)(w:World):(X1 #[.int .u64 (a:Int),.int .u64 (b:Int),.int .u64 0]).run Tryz.prog w= .ok (Extern.MathBitsCarry.pair ((a+b)%18446744073709551616) ((a+b)/18446744073709551616)) w:=by
 kernel_rfl
theorem VG{fx x y z:Operand}{ts:Array TypeId}{ty:TypeId}{a b:Nat}:
  OpOk Tryz.prog (.call {callee:= .value fx,args:= #[x,y,z],argTypes:=ts}) ty [(fx,vFun 169),(x,qc .u64 a),(y,qc .u64 b),(z,qc .u64 0)] []
   (.tup [.one (.val (.int .u64 (((a+b)%18446744073709551616:Nat):Int))),.one (.val (.int .u64 (((a+b)/18446744073709551616:Nat):Int)))]) []:=
 qn λac w H β hins _ _=>by
  have hf:=(hins (fx,vFun 169) (by simp)).1;have hx:=(hins (x,qc .u64 a) (by simp)).1;have hy:=(hins (y,qc .u64 b) (by simp)).1;have hz:=(hins (z,qc .u64 0) (by simp)).1;simp only at hf hx hy hz;refine⟨Extern.MathBitsCarry.pair ((a+b)%18446744073709551616) ((a+b)/18446744073709551616),?_,λ_ _ _ _=>?_⟩
  .exact⟨_,rfl,⟨⟨rfl,rfl⟩,⟨⟨rfl,rfl⟩,trivial⟩⟩⟩
  .have hb: Tryz.f169.body.isNone=true:=by kernel_rfl
   have hn:(Tryz.f169.name== "runtime.NumGoroutine")=false:=by kernel_rfl
   simp only[execOp,resolve,hf,Deferred.ofValue,q6b,q6c,q6a,invoke,callFunc,run_program,Tryz.func169,hb,hn,q4S,if_false,if_true,UL,Yp];rw[show(#[]++Array.map ac.eval #[x,y,z]++ #[]:Array Value)= #[.int .u64 (a:Int),.int .u64 (b:Int),.int .u64 0] by simp[hx,hy,hz]];rw[show Sem.run Tryz.prog (mark (Mark.extern 169)) w= .ok () w from rfl];simp only[q6a,TA]
abbrev q1Q:FI:=⟨124,[.rat,.rat,.bool],[(.n 31),(.n 31),.u],λ_=>[],λb z=>(λ(x:Rat)(y:Rat)(s:Bool)=> .c (.agg [.dt .rat (.n ((b0 b).nb+(b1 b).nb+1)) (x+yQ s y)])) z.1 z.2.1 z.2.2⟩
theorem q1R:q1Q.OK Tryz.prog:=qI hmix 152 Tryz.func124 rfl rfl (by decide) [(118,.c Gj),(122,.c Gv)] (λ(x:Rat)(y:Rat)(s:Bool) b hx hp=>v8 (J9 (Bnds.h3 hx).1 (Bnds.h3 hx).2.1)) (λ(x:Rat)(y:Rat)(s:Bool) hx hp=>by
 have hx0:Bnd .rat (.n 31) x:=hx.1;have hx1:Bnd .rat (.n 31) y:=hx.2.1
 refine⟨.cond (.cond (.h 6 2 (.any [.c (.one (.vl (.func (.func 169) #[] #[]))),.c (.one (.dt (.nat .u64) (.n 18446744065119617025) ((pn x)*(pd y)))),.c (.one (.dt (.nat .u64) (.n 18446744065119617025) ((pn y)*(pd x)))),.c (.one (.kn .u64 0))] (.tup [(.one (.dt (.nat .u64) (.n 18446744073709551615) ((((pn x)*(pd y))+((pn y)*(pd x)))%18446744073709551616))),(.one (.dt (.nat .u64) (.n 1) (cy ((pn x)*(pd y)) ((pn y)*(pd x)))))]) (jB (qg (q5G (q5O _ (by decide))) rfl) (jB (qg (q3v (q5T (IM x) (IL y)) (q5T (IM y) (IL x))) rfl) wW)) (Op.call {callee:= .value (.func 169),args:= #[.tmp 43,.tmp 44,.const (.int .u64 0)],argTypes:= #[128,128,128]}) (λ_=>VG (a:=(pn x)*(pd y)) (b:=(pn y)*(pd x)))) (.cond (.cond (.nil) (.dead)) (.cond (.cond (.h 10 4 (.i .sub) (.nil)) (.cond (.h 12 3 (.i .sub) (.nil)) (.dead))) (.dead)))) (.dead)) (.dead),kcast (by kernel_rfl) (Sp (pb x=true) (λh1=>Sp (pb y=true) (λh2=>have hpx:=D7 (x:=x) (by assumption);have hpy:=D7 (x:=y) (by assumption);have hx8:=IM x;have hx9:=IL x;have hy8:=IM y;have hy9:=IL y;have hm1:=q5T hx8 hy9;have hm2:=q5T hy8 hx9;have hpp:=q5W hpx.2.2 hpy.2.2;I (rfl:([.c (.one (.vl (.func (.func 169) #[] #[]))),.c (.one (.dt (.nat .u64) (.n 18446744065119617025) ((pn x)*(pd y)))),.c (.one (.dt (.nat .u64) (.n 18446744065119617025) ((pn y)*(pd x)))),.c (.one (.kn .u64 0))]:List WV)=[.c (.one (.vl (.func (.func 169) #[] #[]))),.c (.one (.dt (.nat .u64) (.n 18446744065119617025) ((pn x)*(pd y)))),.c (.one (.dt (.nat .u64) (.n 18446744065119617025) ((pn y)*(pd x)))),.c (.one (.kn .u64 0))]) (I (rfl:(Op.call {callee:= .value (.func 169),args:= #[.tmp 43,.tmp 44,.const (.int .u64 0)],argTypes:= #[128,128,128]}:Op)=Op.call {callee:= .value (.func 169),args:= #[.tmp 43,.tmp 44,.const (.int .u64 0)],argTypes:= #[128,128,128]}) (Sp ((decide (x.num<0))=s) (λh3=>Sp (cy ((pn x)*(pd y)) ((pn y)*(pd x))=0) (λh4=>I (hpp:0<(pd x)*(pd y)) ((?_:qr s ((((pn x)*(pd y))+((pn y)*(pd x)))%18446744073709551616) ((pd x)*(pd y))=x+yQ s y))) (λh5=>(absurd (q4w hx0 hx1) h5:False))) (λh6=>Sp ((decide (x.num<0))≠s) (λh7=>Sp ((pn y)*(pd x)<=(pn x)*(pd y)) (λh8=>I (by first|omega|contradiction:(pn y)*(pd x)<=(pn x)*(pd y)) (I (hpp:0<(pd x)*(pd y)) ((?_:qr (decide (x.num<0)) (((pn x)*(pd y)) -((pn y)*(pd x))) ((pd x)*(pd y))=x+yQ s y)))) (λh9=>Sp ((decide (x.num<0))≠s) (λh10=>I (by first|omega|contradiction:(pn x)*(pd y)<=(pn y)*(pd x)) (I (hpp:0<(pd x)*(pd y)) ((?_:qr s (((pn y)*(pd x)) -((pn x)*(pd y))) ((pd x)*(pd y))=x+yQ s y)))) (λh11=>(by first|contradiction|simp_all:False)))) (λh12=>(by first|contradiction|simp_all:False)))))) (λh13=>(absurd (De hx1) h13:False))) (λh14=>(absurd (De hx0) h14:False)))⟩<;>first|(first|contradiction|skip;rw[hpx.1,hpx.2.1,hpy.1,hpy.2.1]at*;first|(rw[q0Q (by assumption)];exact EX (by assumption))|exact EV (by assumption) (by assumption)|exact EW (by assumption) (by omega)))
abbrev Tk:Ctr Tryz.prog:=FI.c q1R
abbrev ZE:FI:=⟨74,[.rat,.rat],[(.n 31),(.n 31)],λ_=>[],λb z=>(λ(x:Rat)(y:Rat)=> .c (.agg [.dt .rat (.n ((b0 b).nb+(b1 b).nb+1)) (x+y)])) z.1 z.2⟩
theorem Py:ZE.OK Tryz.prog:=qI hmix 10 Tryz.func74 rfl rfl (by decide) [(124,.c Tk)] (λ(x:Rat)(y:Rat) b hx hp=>v8 (GP (Bnds.h2 hx).1 (Bnds.h2 hx).2)) (λ(x:Rat)(y:Rat) hx hp=>by
 refine⟨.nil,kcast (by kernel_rfl) ((by rw[Cg]:x+yQ (decide (y.num<0)) y=x+y))⟩)
abbrev Px:Ctr Tryz.prog:=FI.c Py
abbrev q2d:FI:=⟨72,[.rat,.rat],[(.n 31),(.n 31)],λ_=>[],λb z=>(λ(x:Rat)(y:Rat)=> .c (.agg [.dt .rat (.n ((b0 b).nb+(b1 b).nb+1)) (x-y)])) z.1 z.2⟩
theorem q2e:q2d.OK Tryz.prog:=qI hmix 11 Tryz.func72 rfl rfl (by decide) [(124,.c Tk)] (λ(x:Rat)(y:Rat) b hx hp=>v8 (Wo (Bnds.h2 hx).1 (Bnds.h2 hx).2)) (λ(x:Rat)(y:Rat) hx hp=>by
 refine⟨.nil,kcast (by kernel_rfl) ((by rw[show decide (¬(y.num<0))=!decide (y.num<0)from decide_not,O8,Rat.sub_eq_add_neg]:x+yQ (decide (¬(y.num<0))) y=x-y))⟩)
abbrev Tm:FI:=⟨76,[.rat],[(.n 1099511627776)],λ_=>[],λb z=>(λ(x:Rat)=> .c (.agg [.dt .rat (b0 b) x])) z⟩
theorem Tn:Tm.OK Tryz.prog:=qI hmix 12 Tryz.func76 rfl rfl (by decide) [(85,.c GW)] (λ(x:Rat) b hx hp=>v8 (Bnds.h1 hx)) (λ(x:Rat) hx hp=>by
 have hx0:Bnd .rat (.n 1099511627776) x:=hx
 refine⟨.h 1 7 (.c Cn) (.h 1 8 (.rat x 1099511627776) (.nil)),kcast (by kernel_rfl) (I (Eq.refl (decide (x.num<0))) (I (Eq.refl x.num.natAbs) (I (Eq.refl (denL x.den)) (I (hx0.1:qM x.num.natAbs 1099511627776) (I (hx0.2:le2 x.den 1099511627776) ((Eq.refl x)))))))⟩)
abbrev KX:Ctr Tryz.prog:=FI.c Tn
abbrev ZH:FI:=⟨61,[.rat],[(.n 31)],λ_=>[],λb z=>(λ(x:Rat)=> .c (.one (.dt (.int .i64) (.n ((b0 b).nb+((b0 b).nb+1))) (max ((bl x.num.natAbs:Nat):Int) ((bl x.den:Nat):Int))))) z⟩
theorem Pz:ZH.OK Tryz.prog:=qI hmix 10 Tryz.func61 rfl rfl (by decide) [(99,.c HX),(109,.c q1U)] (λ(x:Rat) b hx hp=>qg (KW (Bnds.h1 hx)) rfl) (λ(x:Rat) hx hp=>by
 refine⟨.nil,kcast (by kernel_rfl) ((Eq.refl (max ((bl x.num.natAbs:Nat):Int) ((bl x.den:Nat):Int))))⟩)
abbrev ZG:Ctr Tryz.prog:=FI.c Pz
abbrev q2b:FI:=⟨71,[.rat,.rat],[(.n 31),(.n 31)],λ_=>[],λb z=>(λ(x:Rat)(y:Rat)=> .tup [.agg [.dt .rat (.n ((b0 b).nb+(b1 b).nb)) (x/y)],.one (.dt (.int .i64) (.n 3) (quoC y))]) z.1 z.2⟩
theorem q2c:q2b.OK Tryz.prog:=qI hmix 58 Tryz.func71 rfl rfl (by decide) [(59,.c JP),(118,.c Gj),(122,.c Gv)] (λ(x:Rat)(y:Rat) b hx hp=>jB (v8 (Zy (Bnds.h2 hx).1 (Bnds.h2 hx).2)) (jB (qg (q1M y) rfl) wW)) (λ(x:Rat)(y:Rat) hx hp=>by
 have hx0:Bnd .rat (.n 31) x:=hx.1;have hx1:Bnd .rat (.n 31) y:=hx.2
 refine⟨.cond (.nil) (.cond (.cond (.nil) (.dead)) (.dead)),kcast (by kernel_rfl) (Sp (qO y=0) (λh1=>q4P (q4g (Ny.1 (by assumption)):0=x/y) ((if_pos (Ny.1 (by assumption))).symm:3=quoC y)) (λh2=>have hy0:=mt Ny.2 (by assumption);Sp (pb x=true) (λh3=>Sp (pb y=true) (λh4=>have hpx:=D7 (x:=x) (by assumption);have hpy:=D7 (x:=y) (by assumption);I (q5W hpx.2.2 (hpy.1▸q5X hy0):0<(pd x)*(pn y)) (q4P (?_:qr (decide ((decide (x.num<0))≠(decide (y.num<0)))) ((pn x)*(pd y)) ((pd x)*(pn y))=x/y) ((if_neg hy0).symm:0=quoC y))) (λh5=>(absurd (De hx1) h5:False))) (λh6=>(absurd (De hx0) h6:False))))⟩<;>first|(first|exact IP hy0|(rw[hpx.1,hpy.1,hpx.2.1,hpy.2.1];exact IP hy0)))
abbrev q1S:FI:=⟨70,[.rat,.rat],[(.n 31),(.n 31)],λ_=>[],λb z=>(λ(x:Rat)(y:Rat)=> .c (.one (.dt (.int .i64) (.n 1) (jp x y)))) z.1 z.2⟩
theorem Tl:q1S.OK Tryz.prog:=qI hmix 80 Tryz.func70 rfl rfl (by decide) [(59,.c JP),(118,.c Gj),(119,.c Xk),(120,.c q3r)] (λ(x:Rat)(y:Rat) b hx hp=>qg (Mb x y) rfl) (λ(x:Rat)(y:Rat) hx hp=>by
 have hx0:Bnd .rat (.n 31) x:=hx.1;have hx1:Bnd .rat (.n 31) y:=hx.2
 refine⟨.cond (.nil) (.cond (.nil) (.cond (.cond (.nil) (.dead)) (.dead))),kcast (by kernel_rfl) (Sp (qO x≠qO y) (λh1=>Sp (qO x<qO y) (λh2=>(?_:(-1)=jp x y)) (λh3=>(?_:1=jp x y))) (λh4=>have hs:=(show qO x=qO y by omega);Sp (decide ((denL x.den)=(denL y.den))=true) (λh5=>have hde:=(show x.den=y.den from GZ x.den_nz y.den_nz (by have h:=h5;simpa using h));Sp (x.num<0) (λh6=>(?_: -(j0 x.num.natAbs y.num.natAbs)=jp x y)) (λh7=>(?_:j0 x.num.natAbs y.num.natAbs=jp x y))) (λh8=>Sp (pb x=true) (λh9=>Sp (pb y=true) (λh10=>have hpx:=D7 (x:=x) (by assumption);have hpy:=D7 (x:=y) (by assumption);Sp ((pn x)*(pd y)<(pn y)*(pd x)) (λh11=>Sp (x.num<0) (λh12=>(?_:1=jp x y)) (λh13=>(?_:(-1)=jp x y))) (λh14=>Sp ((pn y)*(pd x)<(pn x)*(pd y)) (λh15=>Sp (x.num<0) (λh16=>(?_:(-1)=jp x y)) (λh17=>(?_:1=jp x y))) (λh18=>Sp (x.num<0) (λh19=>(?_:0=jp x y)) (λh20=>(?_:0=jp x y))))) (λh21=>(absurd (De hx1) h21:False))) (λh22=>(absurd (De hx0) h22:False)))))⟩<;>first|(first|exact((FZ (by assumption)).1 (by assumption)).symm|exact((FZ (by assumption)).2 (by assumption)).symm|(rw[OF hs (by assumption)];first|exact Ea hde|exact congrArg Neg.neg (Ea hde)|rfl|(rw[RF hpx hpy];unfold j0;split<;>(try split)<;>first|rfl|omega))|(rw[OG hs (by assumption)];first|exact Ea hde|exact congrArg Neg.neg (Ea hde)|rfl|(rw[RF hpx hpy];unfold j0;split<;>(try split)<;>first|rfl|omega))))
abbrev Nl:Ctr Tryz.prog:=FI.c Tl
abbrev ZO:FI:=⟨102,[.rat,.rat],[(.n 1099511627776),(.n 1099511627776)],λ_=>[],λb z=>(λ(x:Rat)(y:Rat)=> .c (.one (.dt .bool .u (decide (x=y))))) z.1 z.2⟩
theorem PG:ZO.OK Tryz.prog:=qI hmix 24 Tryz.func102 rfl rfl (by decide) [(119,.c Xk)] (λ(x:Rat)(y:Rat) b hx hp=>qg trivial rfl) (λ(x:Rat)(y:Rat) hx hp=>by
 refine⟨.nil,kcast (by kernel_rfl) (Sp ((decide (x.num<0))=(decide (y.num<0))) (λh1=>Sp (decide ((limbs x.num.natAbs)=(limbs y.num.natAbs))=true) (λh2=>(?_:decide ((denL x.den)=(denL y.den))=decide (x=y))) (λh3=>(?_:false=decide (x=y)))) (λh4=>(?_:false=decide (x=y))))⟩<;>first|(first|exact q4p (by assumption)|exact q4q (by assumption)|exact q4r (by assumption) (by assumption)))
abbrev JO:Ctr Tryz.prog:=FI.c PG
abbrev q25:FI:=⟨204,[.rat,.rat],[(.n 31),(.n 31)],λ_=>[],λb z=>(λ(x:Rat)(y:Rat)=> .c (.agg [.dt .rat (.n (max (b0 b).nb (b1 b).nb)) (minQ x y)])) z.1 z.2⟩
theorem q26:q25.OK Tryz.prog:=qI hmix 12 Tryz.func204 rfl rfl (by decide) [(70,.c Nl),(76,.c KX)] (λ(x:Rat)(y:Rat) b hx hp=>v8 (Vq (Bnds.h2 hx).1 (Bnds.h2 hx).2)) (λ(x:Rat)(y:Rat) hx hp=>by
 refine⟨.nil,kcast (by kernel_rfl) (Sp (jp y x<0) (λh1=>(?_:y=minQ x y)) (λh2=>(?_:x=minQ x y)))⟩<;>first|(first|exact(if_pos (by assumption)).symm|exact(if_neg (by assumption)).symm))
abbrev q23:FI:=⟨36,[.rat,.rat],[(.n 31),(.n 31)],λ_=>[],λb z=>(λ(x:Rat)(y:Rat)=> .c (.agg [.dt .rat (.n (max (b0 b).nb (b1 b).nb)) (maxQ x y)])) z.1 z.2⟩
theorem q24:q23.OK Tryz.prog:=qI hmix 12 Tryz.func36 rfl rfl (by decide) [(70,.c Nl),(76,.c KX)] (λ(x:Rat)(y:Rat) b hx hp=>v8 (Vp (Bnds.h2 hx).1 (Bnds.h2 hx).2)) (λ(x:Rat)(y:Rat) hx hp=>by
 refine⟨.nil,kcast (by kernel_rfl) (Sp (0<jp y x) (λh1=>(?_:y=maxQ x y)) (λh2=>(?_:x=maxQ x y)))⟩<;>first|(first|exact(if_pos (by assumption)).symm|exact(if_neg (by assumption)).symm))
abbrev q0q:FO:=⟨91,[(.sl (.nat .u32))],[(.s 1099511627776 (.n 4294967295))],λz=>(λ(ls:List Nat)=>[∀u∈ls,u<4294967296]) z,λk b z=>(λ(ls:List Nat)=> .c (.one (.gs k ((limbs (qd ls)).length) 1 ((b0 b).len)))) z,λb z=>(λ(ls:List Nat)=> .gro (.nat .u32) (.n 4294967295) (limbs (qd ls))) z⟩
theorem q0r:q0q.OK Tryz.prog:=mkO hmix 23 22 Tryz.func91 rfl rfl (by decide) [] (λ_=>rfl) (λ_ _ _=>rfl) (λ_ _=>rfl) (λ_ _ _=>⟨rfl,rfl⟩) (λ(ls:List Nat) k b hx hp=>⟨qg (q5I (Pi (hp _ q5l)) (Bnds.h1 hx).sl.1) rfl,λu hu=>q5G (vh _ u hu)⟩) (λ(ls:List Nat) hx hp=>by
 have hl0:ls.length<=1099511627776:=hx.1;have hp0: ∀u∈ls,u<4294967296:=hp _ (q5l)
 refine bodyO.g (.loop [.s 3 (.nat .i64) (.n 1099511627776)] (λ(k:Nat)=>k<=ls.length/\qd (ls.take k)=qd ls) (λ(k:Nat)=>k) (λ(k:Nat)=> .cond (.h 2 5 (.i .sub) (.cond (.h 3 1 (.i .sub) (.nil)) (.h 4 0 (.mk (.gro (.nat .u32) (.n 4294967295))) (.nil)))) (.h 4 0 (.mk (.gro (.nat .u32) (.n 4294967295))) (.nil)))) (kcast (by kernel_rfl) (I (⟨q5H _,by rw[q5t]⟩:ls.length<=ls.length/\qd (ls.take ls.length)=qd ls) (λ(k:Nat)(hb1:HB [.s 3 (.nat .i64) (.n 1099511627776)] k)(hC:k<=ls.length/\qd (ls.take k)=qd ls)=>have hv6:=(show k<=1099511627776 from hb1);have hk:=hC.1;Sp (0<k) (λh2=>I (?_:1<=k) (I (?_:k-1<ls.length) (Sp (ls.getD (k-1) 0=0) (λh3=>I (?_:1<=k) (q4P (⟨by omega,L8 hC.1 (by omega) hC.2 (by omega)⟩:k-1<=ls.length/\qd (ls.take (k-1))=qd ls) (?_:k-1<k))) (λh4=>I (?_:k<=ls.length) (I (rfl:0=([]:List Nat).length) (q4P ((q5q _).trans (B6 hp0 hC.1 hC.2 (by omega)):([]:List Nat)++(ls.take k)=limbs (qd ls)) ((by rw[<-B6 hp0 hC.1 hC.2 (by omega)];simp:0+(ls.take k).length=(limbs (qd ls)).length)))))))) (λh5=>I (?_:k<=ls.length) (I (rfl:0=([]:List Nat).length) (q4P ((q5q _).trans (B6 hp0 hC.1 hC.2 (by omega)):([]:List Nat)++(ls.take k)=limbs (qd ls)) ((by rw[<-B6 hp0 hC.1 hC.2 (by omega)];simp:0+(ls.take k).length=(limbs (qd ls)).length))))))))<;>omega)
abbrev q0p(k:Nat)(b:List Bd)(ls:List Nat):WV:= .c (.one (.gs k ((limbs (qd ls)).length) 1 ((b0 b).len)))
abbrev q0o(b:List Bd)(ls:List Nat):WB:= .gro (.nat .u32) (.n 4294967295) (limbs (qd ls))
theorem Ue(d:Nat)(ls:List Nat)(hx:Bnds [(.sl (.nat .u32))] [(.s 1099511627776 (.n 4294967295))] ls)(hp: ∀c0∈([∀u∈ls,u<4294967296]:List Prop),c0):SigG Tryz.prog 91 (argsE [(.sl (.nat .u32))] ls) [] (q0p d [(.s 1099511627776 (.n 4294967295))] ls).exp [(d,some (q0o [(.s 1099511627776 (.n 4294967295))] ls).exp)]:=q0r.sig d ls hx hp
theorem Ud(b:List Bd)(ls:List Nat)(hx:Bnds [.sl (.nat .u32)] b ls)(hp: ∀p∈([∀u∈ls,u<4294967296]:List Prop),p):(WV.c (.one (.dt .mag (.n (32*(b0 b).len)) (qd ls)))).ok:=qg (Ey (hp _ q5l) (Bnds.h1 hx).sl.1) rfl
theorem J6(ls:List Nat)(hx:Bnds [.sl (.nat .u32)] [.s 1099511627776 (.n 4294967295)] ls)(hp: ∀p∈([∀u∈ls,u<4294967296]:List Prop),p)(b:Bd):Sig Tryz.prog 91 (argsE [.sl (.nat .u32)] ls) (WV.c (.one (.dt .mag b (qd ls)))).exp:=by
 have h:=frzO (Ue 0 ls hx hp) (by decide) rfl .u;rw[magE (qd ls) .u b]at h;exact h
def K6:Ctr Tryz.prog:=⟨91,[.sl (.nat .u32)],[.s 1099511627776 (.n 4294967295)],λz=>[∀u∈z,u<4294967296],λb z=> .c (.one (.dt .mag (.n (32*(b0 b).len)) (qd z))),λz hx hp=>J6 z hx hp _,λ_ _=>rfl,λb z hx hp=>Ud b z hx hp⟩
theorem Rs(x:Nat)(hx:Bnds [.mag] [.n 1099511627776] x)(b:Bd):Sig Tryz.prog 91 (argsE [.mag] x) (WV.c (.one (.dt .mag b x))).exp:=by
 have h:=J6 (limbs x) ⟨q5I (qu (q5F hx)) (by decide),(Bnd.limbs hx).2⟩ (by intro p hp;simp only[q5j,q5r,or_false]at hp;subst hp;exact vh x) b;rw[qY,<-EY]at h;exact h
def K7:Ctr Tryz.prog:=⟨91,[.mag],[.n 1099511627776],λz=>[],λb z=> .c (.one (.dt .mag (b0 b) z)),λz hx hp=>Rs z hx _,λ_ _=>rfl,λb z hx hp=>qg (Bnds.h1 hx) rfl⟩
abbrev q4M:FI:=⟨95,[(.nat .u64)],[(.n 18446744073709551615)],λ_=>[],λb z=>(λ(x:Nat)=> .c (.one (.dt .mag (.n (Nat.log2 (b0 b).nb+1)) (x)))) z⟩
theorem q4N:q4M.OK Tryz.prog:=qI hmix 10 Tryz.func95 rfl rfl (by decide) [] (λ(x:Nat) b hx hp=>qg (Aw (Bnds.h1 hx).nat) rfl) (λ(x:Nat) hx hp=>by
 have hx0:x<=18446744073709551615:=hx
 refine⟨.h 1 5 (.mk (.im (.nat .u32) (.n 4294967295))) (.h 1 6 (.c K6) (.nil)),kcast (by kernel_rfl) (I (by intro u hu;simp only[q5j,q5r,or_false]at hu;omega: ∀u∈[x%4294967296,x/2^32],u<4294967296) ((by simp only[qd];omega:qd [x%4294967296,x/2^32]=x)))⟩)
abbrev Rr:Ctr Tryz.prog:=FI.c q4N
abbrev WN:FI:=⟨113,[(.sl (.nat .u32))],[(.s 1099511627776 (.n 4294967295))],λz=>(λ(ls:List Nat)=>[ls.length=0\/ls.getD (ls.length-1) 0≠0]) z,λb z=> .c (.one (.vl (.bool true)))⟩
theorem WO:WN.OK Tryz.prog:=qI hmix 15 Tryz.func113 rfl rfl (by decide) [] (λ(ls:List Nat) b hx hp=>AR rfl) (λ(ls:List Nat) hx hp=>by
 have hl0:ls.length<=1099511627776:=hx.1;have hp0:ls.length=0\/ls.getD (ls.length-1) 0≠0:=hp _ (q5l)
 refine⟨.cond (.nil) (.h 1 7 (.i .sub) (.nil)),kcast (by kernel_rfl) (Sp (ls.length=0) (λh1=>trivial) (λh2=>I (?_:1<=ls.length) (I (?_:ls.length-1<ls.length) ((?_:ls.getD (ls.length-1) 0≠0)))))⟩<;>omega)
abbrev WM:Ctr Tryz.prog:=FI.c WO
abbrev q2X:FI:=⟨47,[.mag,.mag],[(.n 1099511627776),(.n 1099511627776)],λ_=>[],λb z=>(λ(x:Nat)(y:Nat)=> .c (.one (.dt (.int .i64) (.n 1) (j0 x y)))) z.1 z.2⟩
theorem q2Y:q2X.OK Tryz.prog:=qI hmix 41 Tryz.func47 rfl rfl (by decide) [] (λ(x:Nat)(y:Nat) b hx hp=>qg (OE x y) rfl) (λ(x:Nat)(y:Nat) hx hp=>by
 have hx0:qM x 1099511627776:=hx.1;have hl0:(limbs x).length<=34359738369:=qu (q5F hx0);have hx1:qM y 1099511627776:=hx.2;have hl1:(limbs y).length<=34359738369:=qu (q5F hx1)
 refine⟨.cond (.nil) (.loop [.s 5 (.int .i64) (.n 68719476736)] (λ(z:Int)=>CmpI x y z) (λ(z:Int)=>(z+1).toNat) (λ(z:Int)=> .cond (.h 8 2 (.ix z.toNat) (.h 8 6 (.ix z.toNat) (.cond (.nil) (.h 10 2 (.ix z.toNat) (.h 10 6 (.ix z.toNat) (.nil)))))) (.nil))),kcast (by kernel_rfl) (Sp ((limbs x).length≠(limbs y).length) (λh1=>Sp ((limbs x).length<(limbs y).length) (λh2=>(?_:(-1)=j0 x y)) (λh3=>(?_:1=j0 x y))) (λh4=>I (CmpI.start (by omega):CmpI x y ((((limbs x).length:Nat):Int) -1)) (λ(z:Int)(hb5:HB [.s 5 (.int .i64) (.n 68719476736)] z)(hC:CmpI x y z)=>have hv12:=(show Int.natAbs z<=68719476736 from hb5);have hC0:=hC.h0;have hC1:=hC.h1;Sp (0<=z) (λh6=>I (?_:z=((z.toNat:Nat):Int)) (I (?_:z.toNat<(limbs x).length) (I (?_:z=((z.toNat:Nat):Int)) (I (?_:z.toNat<(limbs y).length) (Sp ((limbs x).getD z.toNat 0<(limbs y).getD z.toNat 0) (λh7=>(?_:(-1)=j0 x y)) (λh8=>I (?_:z=((z.toNat:Nat):Int)) (I (?_:z.toNat<(limbs x).length) (I (?_:z=((z.toNat:Nat):Int)) (I (?_:z.toNat<(limbs y).length) (Sp ((limbs y).getD z.toNat 0<(limbs x).getD z.toNat 0) (λh9=>(?_:1=j0 x y)) (λh10=>I (show Int.natAbs (z-1)<=68719476736 by omega:Bnd (.int .i64) (.n 68719476736) (z-1)) (q4P ((hC.at (by omega) (by omega)).1 (by omega):CmpI x y (z-1)) (?_:((z-1)+1).toNat<(z+1).toNat))))))))))))) (λh11=>((hC.fin (by omega)).symm:0=j0 x y)))))⟩<;>first|omega|(first|exact(Mc (by omega)).symm|exact((hC.at (by omega) (by omega)).2.1 (by omega)).symm)|(first|exact(Md (by omega)).symm|exact((hC.at (by omega) (by omega)).2.2 (by omega)).symm))
abbrev FR:Ctr Tryz.prog:=FI.c q2Y
abbrev WI:FI:=⟨94,[.mag,.mag],[(.n 1099511627776),(.n 1099511627776)],λz=>(λ(x:Nat)(y:Nat)=>[y<=x]) z.1 z.2,λb z=>(λ(x:Nat)(y:Nat)=> .c (.one (.dt .mag (b0 b) (x-y)))) z.1 z.2⟩
theorem WJ:WI.OK Tryz.prog:=qI hmix 50 Tryz.func94 rfl rfl (by decide) [] (λ(x:Nat)(y:Nat) b hx hp=>qg (Bnd.magLe (Bnds.h2 hx).1 (Nat.sub_le _ _)) rfl) (λ(x:Nat)(y:Nat) hx hp=>by
 have hx0:qM x 1099511627776:=hx.1;have hl0:(limbs x).length<=34359738369:=qu (q5F hx0);have hx1:qM y 1099511627776:=hx.2;have hl1:(limbs y).length<=34359738369:=qu (q5F hx1);have hp0:y<=x:=hp _ (q5l);have hlen:=wE hp0
 refine⟨.h 1 2 (.mk (.arr (.nat .u32) (.n 4294967295))) (.loop [.s 7 (.nat .i64) (.n 34359738369),.s 6 (.nat .u64) (.n 1),.a 12 (.nat .u32) (.n 4294967295)] (λ((i,c,out):Nat×Nat×List Nat)=>SubI x y i c out) (λ((i,c,out):Nat×Nat×List Nat)=>(limbs x).length-i) (λ((i,c,out):Nat×Nat×List Nat)=> .cond (.cond (.cond (.h 14 4 (.i .sub) (.nil)) (.h 14 4 (.i .sub) (.nil))) (.cond (.h 14 4 (.i .sub) (.nil)) (.h 14 4 (.i .sub) (.nil)))) (.pre 15 (.frz 12 true [5]) (.h 15 1 (.c K6) (.nil))))),kcast (by kernel_rfl) (I (?_:(limbs x).length=(limbs x).length) (I (SubI.start x y:SubI x y 0 0 (List.replicate ((limbs x).length) (0:Nat))) (λ(i:Nat)(c:Nat)(out:List Nat)(hb1:HB [.s 7 (.nat .i64) (.n 34359738369),.s 6 (.nat .u64) (.n 1),.a 12 (.nat .u32) (.n 4294967295)] (i,c,out))(hI:SubI x y i c out)=>have hv10:=(show i<=34359738369 from hb1.1);have hv11:=(show c<=1 from hb1.2.1);have hv12:=(show∀u∈out,u<=4294967295 from hb1.2.2);have hIl:=hI.hl;have hIi:=hI.hi;have hIc:=hI.hc;have hg1:=qz x i;have hg2:=qz y i;Sp (i<(limbs x).length) (λh2=>Sp (i<(limbs y).length) (λh3=>I (?_:i<(limbs y).length) (I (?_:i<(limbs x).length) (Sp ((limbs x).getD i 0<c+((limbs y).getD i 0)) (λh4=>I (?_:c+((limbs y).getD i 0)<=((limbs x).getD i 0)+4294967296) (I (?_:i<(limbs x).length) (I (?_:i<out.length) (I (show(i+1)<=34359738369 by omega:Bnd (.nat .i64) (.n 34359738369) (i+1)) (q4P (?_:SubI x y (i+1) 1 (out.set i (((((limbs x).getD i 0)+4294967296) -(c+((limbs y).getD i 0)))%4294967296))) (?_:(limbs x).length-(i+1)<(limbs x).length-i)))))) (λh5=>I (?_:c+((limbs y).getD i 0)<=(limbs x).getD i 0) (I (?_:i<(limbs x).length) (I (?_:i<out.length) (I (show(i+1)<=34359738369 by omega:Bnd (.nat .i64) (.n 34359738369) (i+1)) (q4P (?_:SubI x y (i+1) 0 (out.set i (((limbs x).getD i 0) -(c+((limbs y).getD i 0))))) (?_:(limbs x).length-(i+1)<(limbs x).length-i))))))))) (λh6=>I (?_:i<(limbs x).length) (Sp ((limbs x).getD i 0<c) (λh7=>I (?_:c<=((limbs x).getD i 0)+4294967296) (I (?_:i<(limbs x).length) (I (?_:i<out.length) (I (show(i+1)<=34359738369 by omega:Bnd (.nat .i64) (.n 34359738369) (i+1)) (q4P (?_:SubI x y (i+1) 1 (out.set i (((((limbs x).getD i 0)+4294967296) -c)%4294967296))) (?_:(limbs x).length-(i+1)<(limbs x).length-i)))))) (λh8=>I (?_:c<=(limbs x).getD i 0) (I (?_:i<(limbs x).length) (I (?_:i<out.length) (I (show(i+1)<=34359738369 by omega:Bnd (.nat .i64) (.n 34359738369) (i+1)) (q4P (?_:SubI x y (i+1) 0 (out.set i (((limbs x).getD i 0) -c))) (?_:(limbs x).length-(i+1)<(limbs x).length-i))))))))) (λh9=>I (?_:(limbs x).length=out.length) (have hF:=hI.fin' (by omega) hp0;I (hF.2: ∀u∈out,u<4294967296) ((hF.1:qd out=x-y)))))))⟩<;>first|omega|(first|exact hI.lt (by omega) (by first|rfl|rw[j4 (l:=limbs y) (by omega),q5z]) (by assumption)|exact hI.ge (by omega) (by first|rfl|rw[j4 (l:=limbs y) (by omega),q5z]) (by assumption)))
abbrev WH:Ctr Tryz.prog:=FI.c WJ
abbrev q37:FI:=⟨48,[.mag,.mag],[(.n 1099511627776),(.n 1099511627776)],λ_=>[],λb z=>(λ(x:Nat)(y:Nat)=> .tup [.one (.dt .mag (b0 b) (x-y)),.one (.dt (.int .i64) (.n 7) (subC x y))]) z.1 z.2⟩
theorem q38:q37.OK Tryz.prog:=qI hmix 13 Tryz.func48 rfl rfl (by decide) [(47,.c FR),(94,.c WH)] (λ(x:Nat)(y:Nat) b hx hp=>jB (qg (Bnd.magLe (Bnds.h2 hx).1 (Nat.sub_le _ _)) rfl) (jB (qg (q2I x y) rfl) wW)) (λ(x:Nat)(y:Nat) hx hp=>by
 have hx0:qM x 1099511627776:=hx.1;have hl0:(limbs x).length<=34359738369:=qu (q5F hx0);have hx1:qM y 1099511627776:=hx.2;have hl1:(limbs y).length<=34359738369:=qu (q5F hx1)
 refine⟨.nil,kcast (by kernel_rfl) (Sp (j0 x y<0) (λh1=>q4P (by have:=zn.1 (show j0 x y<0 by assumption);omega:0=x-y) ((if_pos (zn.1 (by assumption))).symm:7=subC x y)) (λh2=>have hp0:=(show y<=x from Nat.le_of_not_lt (mt zn.2 (by assumption)));I (?_:y<=x) (q4P (Eq.refl (x-y)) ((if_neg (by omega)).symm:0=subC x y))))⟩<;>omega)
abbrev q36:Ctr Tryz.prog:=FI.c q38
abbrev q34:FI:=⟨43,[.mag,.mag],[(.n 1099511627776),(.n 1099511627776)],λ_=>[],λb z=>(λ(x:Nat)(y:Nat)=> .c (.one (.dt .mag (.n ((b0 b).nb+(b1 b).nb)) (x*y)))) z.1 z.2⟩
theorem q35:q34.OK Tryz.prog:=qI hmix 67 Tryz.func43 rfl rfl (by decide) [] (λ(x:Nat)(y:Nat) b hx hp=>qg (Pd (Bnds.h2 hx).1.mag (Bnds.h2 hx).2.mag) rfl) (λ(x:Nat)(y:Nat) hx hp=>by
 have hx0:qM x 1099511627776:=hx.1;have hl0:(limbs x).length<=34359738369:=qu (q5F hx0);have hx1:qM y 1099511627776:=hx.2;have hl1:(limbs y).length<=34359738369:=qu (q5F hx1)
 refine⟨.h 1 5 (.mk (.arr (.nat .u32) (.n 4294967295))) (.loop [.s 6 (.nat .i64) (.n 34359738369),.a 14 (.nat .u32) (.n 4294967295)] (λ((i,out):Nat×List Nat)=>MulI x y i out) (λ((i,out):Nat×List Nat)=>(limbs x).length-i) (λ((i,out):Nat×List Nat)=> .cond (.loop [.s 8 (.nat .i64) (.n 34359738369),.s 7 (.nat .u64) (.n 4294967295),.a 14 (.nat .u32) (.n 4294967295)] (λ((j,c,out2):Nat×Nat×List Nat)=>MulJ x y i ((limbs x).getD i 0) j c out out2) (λ((j,c,out2):Nat×Nat×List Nat)=>(limbs y).length-j) (λ((j,c,out2):Nat×Nat×List Nat)=> .nil)) (.pre 13 (.frz 14 true [5]) (.h 13 1 (.c K6) (.nil))))),kcast (by kernel_rfl) (I (?_:((limbs x).length)+((limbs y).length)=((limbs x).length)+((limbs y).length)) (I (MulI.start x y:MulI x y 0 (List.replicate (((limbs x).length)+((limbs y).length)) (0:Nat))) (λ(i:Nat)(out:List Nat)(hb1:HB [.s 6 (.nat .i64) (.n 34359738369),.a 14 (.nat .u32) (.n 4294967295)] (i,out))(hM:MulI x y i out)=>have hv10:=(show i<=34359738369 from hb1.1);have hv11:=(show∀u∈out,u<=4294967295 from hb1.2);have hMl:=hM.hl;have hMi:=hM.hi;Sp (i<(limbs x).length) (λh2=>I (MulJ.start hM:MulJ x y i ((limbs x).getD i 0) 0 0 out out) (λ(j:Nat)(c:Nat)(out2:List Nat)(hb3:HB [.s 8 (.nat .i64) (.n 34359738369),.s 7 (.nat .u64) (.n 4294967295),.a 14 (.nat .u32) (.n 4294967295)] (j,c,out2))(hJ:MulJ x y i ((limbs x).getD i 0) j c out out2)=>have hv6:=(show j<=34359738369 from hb3.1);have hv7:=(show c<=4294967295 from hb3.2.1);have hv8:=(show∀u∈out2,u<=4294967295 from hb3.2.2);have hJl:=hJ.hl;have hJj:=hJ.hj;have hJc:=hJ.hc;Sp (j<(limbs y).length) (λh4=>I (?_:i<(limbs x).length) (I (?_:j<(limbs y).length) (I (?_:i+j<((limbs x).length)+((limbs y).length)) (I (?_:i+j<out2.length) (I (?_:i+j<((limbs x).length)+((limbs y).length)) (I (?_:i+j<out2.length) (I (show(j+1)<=34359738369 by omega:Bnd (.nat .i64) (.n 34359738369) (j+1)) (q4P ((hJ.step (by omega) (by omega) (qz x i) rfl).1:MulJ x y i ((limbs x).getD i 0) (j+1) ((c+((((limbs x).getD i 0)*((limbs y).getD j 0))+(out2.getD (i+j) 0)))/2^32) out (out2.set (i+j) ((c+((((limbs x).getD i 0)*((limbs y).getD j 0))+(out2.getD (i+j) 0)))%4294967296))) (?_:(limbs y).length-(j+1)<(limbs y).length-j))))))))) (λh5=>I (?_:i+((limbs y).length)<((limbs x).length)+((limbs y).length)) (I (?_:i+((limbs y).length)<out2.length) (I (show(i+1)<=34359738369 by omega:Bnd (.nat .i64) (.n 34359738369) (i+1)) (q4P (MulJ.fin' hM (by omega) hJ (by omega):MulI x y (i+1) (out2.set (i+((limbs y).length)) c)) (?_:(limbs x).length-(i+1)<(limbs x).length-i))))))) (λh9=>I (?_:((limbs x).length)+((limbs y).length)=out.length) (have hF:=hM.fin' (by omega);I (hF.2: ∀u∈out,u<4294967296) ((hF.1:qd out=x*y)))))))⟩<;>omega)
abbrev O6:Ctr Tryz.prog:=FI.c q35
abbrev WK:FI:=⟨149,[.mag],[(.n 1099511627776)],λ_=>[],λb z=>(λ(x:Nat)=> .tup [.one (.dt (.nat .u64) (.n 18446744073709551615) (xw x)),.one (.dt .bool .u (xk x))]) z⟩
theorem WL:WK.OK Tryz.prog:=qI hmix 26 Tryz.func149 rfl rfl (by decide) [] (λ(x:Nat) b hx hp=>jB (qg (q4O x) rfl) (jB (qg trivial rfl) wW)) (λ(x:Nat) hx hp=>by
 have hx0:qM x 1099511627776:=hx;have hl0:(limbs x).length<=34359738369:=qu (q5F hx0)
 refine⟨.cond (.nil) (.cond (.nil) (.cond (.h 7 9 (.i (.n (((limbs x).getD 0 0)+(((limbs x).getD 1 0)*2^32)) 18446744073709551615)) (.nil)) (.nil))),kcast (by kernel_rfl) (Sp ((limbs x).length=0) (λh1=>q4P (by rw[(xw_y (by omega)).1];exact(nl0.1 (by omega)).symm:0=xw x) ((xw_y (by omega)).2.symm:true=xk x)) (λh2=>Sp ((limbs x).length=1) (λh3=>I (?_:0<(limbs x).length) (q4P (by rw[(xw_y (by omega)).1];exact Xs (by omega):(limbs x).getD 0 0=xw x) ((xw_y (by omega)).2.symm:true=xk x))) (λh4=>Sp ((limbs x).length=2) (λh5=>I (?_:0<(limbs x).length) (I (?_:1<(limbs x).length) (I (q0H _ 32 rfl (qz _ _) (by have:=qz x 0;have:=qz x 1;omega):vO .or .u64 (((limbs x).getD 0 0:Nat):Int) ((((limbs x).getD 1 0)*2^32:Nat):Int) ((((limbs x).getD 0 0)+(((limbs x).getD 1 0)*2^32):Nat):Int)) (I (by have:=qz x 0;have:=qz x 1;omega:((limbs x).getD 0 0)+(((limbs x).getD 1 0)*2^32)<=18446744073709551615) (q4P (by rw[(xw_y (by omega)).1];exact TX (by omega):((limbs x).getD 0 0)+(((limbs x).getD 1 0)*2^32)=xw x) ((xw_y (by omega)).2.symm:true=xk x)))))) (λh6=>q4P ((xw_n (by omega)).1.symm:0=xw x) ((xw_n (by omega)).2.symm:false=xk x)))))⟩<;>omega)
abbrev O7:Ctr Tryz.prog:=FI.c WL
abbrev q0m:FI:=⟨151,[.mag],[(.n 1099511627776)],λ_=>[],λb z=>(λ(x:Nat)=> .c (.one (.dt (.nat .i64) (b0 b) (bl x)))) z⟩
theorem q0n:q0m.OK Tryz.prog:=qI hmix 25 Tryz.func151 rfl rfl (by decide) [] (λ(x:Nat) b hx hp=>qg (RB (Bnds.h1 hx)) rfl) (λ(x:Nat) hx hp=>by
 have hx0:qM x 1099511627776:=hx;have hl0:(limbs x).length<=34359738369:=qu (q5F hx0)
 refine⟨.cond (.nil) (.h 3 2 (.i .sub) (.h 4 3 (.i .sub) (.loop [.s 3 (.nat .i64) (.n 1099511627872),.s 4 (.nat .u32) (.n 4294967295)] (λ((k,v):Nat×Nat)=>k+bl v=bl x) (λ((k,v):Nat×Nat)=>v) (λ((k,v):Nat×Nat)=> .nil)))),kcast (by kernel_rfl) (Sp ((limbs x).length=0) (λh1=>(by have:=(nl0 (x:=x)).1 (by omega);subst this;rfl:0=bl x)) (λh2=>have hpos:=(show 0<(limbs x).length by omega);have hBB:=OB hpos;I (?_:1<=(limbs x).length) (I (?_:1<=(limbs x).length) (I (?_:((limbs x).length) -1<(limbs x).length) (I (hBB:(32*(((limbs x).length) -1))+bl ((limbs x).getD (((limbs x).length) -1) 0)=bl x) (λ(k:Nat)(v:Nat)(hb3:HB [.s 3 (.nat .i64) (.n 1099511627872),.s 4 (.nat .u32) (.n 4294967295)] (k,v))(hC:k+bl v=bl x)=>have hv6:=(show k<=1099511627872 from hb3.1);have hv7:=(show v<=4294967295 from hb3.2);have hbx:=(E4 hx0:bl x<=1099511627776);Sp (v≠0) (λh4=>I (show(k+1)<=1099511627872 by omega:Bnd (.nat .i64) (.n 1099511627872) (k+1)) (q4P (by have:=XX (v:=v) (by omega);omega:(k+1)+bl (v/2^1)=bl x) (?_:v/2^1<v))) (λh5=>(by have e:v=0:=(by omega);rw[e,OD]at hC;omega:k=bl x))))))))⟩<;>omega)
abbrev q0l:Ctr Tryz.prog:=FI.c q0n
abbrev q2V:FI:=⟨46,[.mag,.mag],[(.n 1099511627776),(.n 1099511627776)],λ_=>[],λb z=>(λ(x:Nat)(y:Nat)=> .c (.one (.dt .mag (.n (max (b0 b).nb (b1 b).nb+1)) (x+y)))) z.1 z.2⟩
theorem q2W:q2V.OK Tryz.prog:=qI hmix 54 Tryz.func46 rfl rfl (by decide) [] (λ(x:Nat)(y:Nat) b hx hp=>qg (JD (Bnds.h2 hx).1.mag (Bnds.h2 hx).2.mag) rfl) (λ(x:Nat)(y:Nat) hx hp=>by
 have hx0:qM x 1099511627776:=hx.1;have hl0:(limbs x).length<=34359738369:=qu (q5F hx0);have hx1:qM y 1099511627776:=hx.2;have hl1:(limbs y).length<=34359738369:=qu (q5F hx1)
 refine⟨.loop [.s 7 (.nat .i64) (.n 34359738371),.s 6 (.nat .u64) (.n 1),.g 5 90005 (.nat .u32) (.n 4294967295) 34359738371] (λ((i,c,out):Nat×Nat×List Nat)=>AddX x y i c out) (λ((i,c,out):Nat×Nat×List Nat)=>max (limbs x).length (limbs y).length+1-i) (λ((i,c,out):Nat×Nat×List Nat)=> .cond (.cond (.cond (.h 10 3 (.mk (.im (.nat .u32) (.n 4294967295))) (.nil)) (.h 10 3 (.mk (.im (.nat .u32) (.n 4294967295))) (.nil))) (.cond (.h 10 3 (.mk (.im (.nat .u32) (.n 4294967295))) (.nil)) (.h 10 3 (.mk (.im (.nat .u32) (.n 4294967295))) (.nil)))) (.cond (.cond (.cond (.h 10 3 (.mk (.im (.nat .u32) (.n 4294967295))) (.nil)) (.h 10 3 (.mk (.im (.nat .u32) (.n 4294967295))) (.nil))) (.cond (.h 10 3 (.mk (.im (.nat .u32) (.n 4294967295))) (.nil)) (.h 10 3 (.mk (.im (.nat .u32) (.n 4294967295))) (.nil)))) (.cond (.cond (.cond (.h 10 3 (.mk (.im (.nat .u32) (.n 4294967295))) (.nil)) (.h 10 3 (.mk (.im (.nat .u32) (.n 4294967295))) (.nil))) (.cond (.h 10 3 (.mk (.im (.nat .u32) (.n 4294967295))) (.nil)) (.h 10 3 (.mk (.im (.nat .u32) (.n 4294967295))) (.nil)))) (.pre 12 (.frz 90005 true [5]) (.h 12 1 (.mag (x+y) 1099511627777) (.nil)))))),kcast (by kernel_rfl) (I (rfl:0=([]:List Nat).length) (I (AddX.start x y:AddX x y 0 0 ([]:List Nat)) (λ(i:Nat)(c:Nat)(out:List Nat)(hb1:HB [.s 7 (.nat .i64) (.n 34359738371),.s 6 (.nat .u64) (.n 1),.g 5 90005 (.nat .u32) (.n 4294967295) 34359738371] (i,c,out))(hI:AddX x y i c out)=>have hv26:=(show i<=34359738371 from hb1.1);have hv27:=(show c<=1 from hb1.2.1);have hv28:=(show out.length<=34359738371 from hb1.2.2.1);have hIl:=hI.hl;have hIi:=hI.hi;have hIc:=hI.hc;have hg1:=qz x i;have hg2:=qz y i;Sp (i<(limbs x).length) (λh2=>Sp (i<(limbs x).length) (λh3=>I (?_:i<(limbs x).length) (Sp (i<(limbs y).length) (λh4=>I (?_:i<(limbs y).length) (I (?_:out.length=out.length) (I (show(i+1)<=34359738371 by omega:Bnd (.nat .i64) (.n 34359738371) (i+1)) (I (by(try simp only[q5b,q5c,q5f])<;>omega:out.length+[((c+((limbs x).getD i 0))+((limbs y).getD i 0))%4294967296].length=(out++[((c+((limbs x).getD i 0))+((limbs y).getD i 0))%4294967296]).length) (I (by(try simp only[q5b,q5c,q5f])<;>omega:out.length+[((c+((limbs x).getD i 0))+((limbs y).getD i 0))%4294967296].length<=34359738371) (q4P (hI.step2 (by omega) (by first|rfl|(have hq1:= @j4 (limbs x) i;have hq2:= @j4 (limbs y) i;omega)) (by omega):AddX x y (i+1) (((c+((limbs x).getD i 0))+((limbs y).getD i 0))/2^32) (out++[((c+((limbs x).getD i 0))+((limbs y).getD i 0))%4294967296])) (by have:=hI.le (by omega);omega:max (limbs x).length (limbs y).length+1-(i+1)<max (limbs x).length (limbs y).length+1-i))))))) (λh5=>I (?_:out.length=out.length) (I (show(i+1)<=34359738371 by omega:Bnd (.nat .i64) (.n 34359738371) (i+1)) (I (by(try simp only[q5b,q5c,q5f])<;>omega:out.length+[(c+((limbs x).getD i 0))%4294967296].length=(out++[(c+((limbs x).getD i 0))%4294967296]).length) (I (by(try simp only[q5b,q5c,q5f])<;>omega:out.length+[(c+((limbs x).getD i 0))%4294967296].length<=34359738371) (q4P (hI.step2 (by omega) (by first|rfl|(have hq1:= @j4 (limbs x) i;have hq2:= @j4 (limbs y) i;omega)) (by omega):AddX x y (i+1) ((c+((limbs x).getD i 0))/2^32) (out++[(c+((limbs x).getD i 0))%4294967296])) (by have:=hI.le (by omega);omega:max (limbs x).length (limbs y).length+1-(i+1)<max (limbs x).length (limbs y).length+1-i)))))))) (λh6=>Sp (i<(limbs y).length) (λh7=>I (?_:i<(limbs y).length) (I (?_:out.length=out.length) (I (show(i+1)<=34359738371 by omega:Bnd (.nat .i64) (.n 34359738371) (i+1)) (I (by(try simp only[q5b,q5c,q5f])<;>omega:out.length+[(c+((limbs y).getD i 0))%4294967296].length=(out++[(c+((limbs y).getD i 0))%4294967296]).length) (I (by(try simp only[q5b,q5c,q5f])<;>omega:out.length+[(c+((limbs y).getD i 0))%4294967296].length<=34359738371) (q4P (hI.step2 (by omega) (by first|rfl|(have hq1:= @j4 (limbs x) i;have hq2:= @j4 (limbs y) i;omega)) (by omega):AddX x y (i+1) ((c+((limbs y).getD i 0))/2^32) (out++[(c+((limbs y).getD i 0))%4294967296])) (by have:=hI.le (by omega);omega:max (limbs x).length (limbs y).length+1-(i+1)<max (limbs x).length (limbs y).length+1-i))))))) (λh8=>I (?_:out.length=out.length) (I (show(i+1)<=34359738371 by omega:Bnd (.nat .i64) (.n 34359738371) (i+1)) (I (by(try simp only[q5b,q5c,q5f])<;>omega:out.length+[c].length=(out++[c]).length) (I (by(try simp only[q5b,q5c,q5f])<;>omega:out.length+[c].length<=34359738371) (q4P (hI.step2 (by omega) (by first|rfl|(have hq1:= @j4 (limbs x) i;have hq2:= @j4 (limbs y) i;omega)) (by omega):AddX x y (i+1) (c/2^32) (out++[c])) (by have:=hI.le (by omega);omega:max (limbs x).length (limbs y).length+1-(i+1)<max (limbs x).length (limbs y).length+1-i)))))))) (λh9=>Sp (i<(limbs y).length) (λh10=>Sp (i<(limbs x).length) (λh11=>I (?_:i<(limbs x).length) (Sp (i<(limbs y).length) (λh12=>I (?_:i<(limbs y).length) (I (?_:out.length=out.length) (I (show(i+1)<=34359738371 by omega:Bnd (.nat .i64) (.n 34359738371) (i+1)) (I (by(try simp only[q5b,q5c,q5f])<;>omega:out.length+[((c+((limbs x).getD i 0))+((limbs y).getD i 0))%4294967296].length=(out++[((c+((limbs x).getD i 0))+((limbs y).getD i 0))%4294967296]).length) (I (by(try simp only[q5b,q5c,q5f])<;>omega:out.length+[((c+((limbs x).getD i 0))+((limbs y).getD i 0))%4294967296].length<=34359738371) (q4P (hI.step2 (by omega) (by first|rfl|(have hq1:= @j4 (limbs x) i;have hq2:= @j4 (limbs y) i;omega)) (by omega):AddX x y (i+1) (((c+((limbs x).getD i 0))+((limbs y).getD i 0))/2^32) (out++[((c+((limbs x).getD i 0))+((limbs y).getD i 0))%4294967296])) (by have:=hI.le (by omega);omega:max (limbs x).length (limbs y).length+1-(i+1)<max (limbs x).length (limbs y).length+1-i))))))) (λh13=>I (?_:out.length=out.length) (I (show(i+1)<=34359738371 by omega:Bnd (.nat .i64) (.n 34359738371) (i+1)) (I (by(try simp only[q5b,q5c,q5f])<;>omega:out.length+[(c+((limbs x).getD i 0))%4294967296].length=(out++[(c+((limbs x).getD i 0))%4294967296]).length) (I (by(try simp only[q5b,q5c,q5f])<;>omega:out.length+[(c+((limbs x).getD i 0))%4294967296].length<=34359738371) (q4P (hI.step2 (by omega) (by first|rfl|(have hq1:= @j4 (limbs x) i;have hq2:= @j4 (limbs y) i;omega)) (by omega):AddX x y (i+1) ((c+((limbs x).getD i 0))/2^32) (out++[(c+((limbs x).getD i 0))%4294967296])) (by have:=hI.le (by omega);omega:max (limbs x).length (limbs y).length+1-(i+1)<max (limbs x).length (limbs y).length+1-i)))))))) (λh14=>Sp (i<(limbs y).length) (λh15=>I (?_:i<(limbs y).length) (I (?_:out.length=out.length) (I (show(i+1)<=34359738371 by omega:Bnd (.nat .i64) (.n 34359738371) (i+1)) (I (by(try simp only[q5b,q5c,q5f])<;>omega:out.length+[(c+((limbs y).getD i 0))%4294967296].length=(out++[(c+((limbs y).getD i 0))%4294967296]).length) (I (by(try simp only[q5b,q5c,q5f])<;>omega:out.length+[(c+((limbs y).getD i 0))%4294967296].length<=34359738371) (q4P (hI.step2 (by omega) (by first|rfl|(have hq1:= @j4 (limbs x) i;have hq2:= @j4 (limbs y) i;omega)) (by omega):AddX x y (i+1) ((c+((limbs y).getD i 0))/2^32) (out++[(c+((limbs y).getD i 0))%4294967296])) (by have:=hI.le (by omega);omega:max (limbs x).length (limbs y).length+1-(i+1)<max (limbs x).length (limbs y).length+1-i))))))) (λh16=>I (?_:out.length=out.length) (I (show(i+1)<=34359738371 by omega:Bnd (.nat .i64) (.n 34359738371) (i+1)) (I (by(try simp only[q5b,q5c,q5f])<;>omega:out.length+[c].length=(out++[c]).length) (I (by(try simp only[q5b,q5c,q5f])<;>omega:out.length+[c].length<=34359738371) (q4P (hI.step2 (by omega) (by first|rfl|(have hq1:= @j4 (limbs x) i;have hq2:= @j4 (limbs y) i;omega)) (by omega):AddX x y (i+1) (c/2^32) (out++[c])) (by have:=hI.le (by omega);omega:max (limbs x).length (limbs y).length+1-(i+1)<max (limbs x).length (limbs y).length+1-i)))))))) (λh17=>Sp (c≠0) (λh18=>Sp (i<(limbs x).length) (λh19=>I (?_:i<(limbs x).length) (Sp (i<(limbs y).length) (λh20=>I (?_:i<(limbs y).length) (I (?_:out.length=out.length) (I (show(i+1)<=34359738371 by omega:Bnd (.nat .i64) (.n 34359738371) (i+1)) (I (by(try simp only[q5b,q5c,q5f])<;>omega:out.length+[((c+((limbs x).getD i 0))+((limbs y).getD i 0))%4294967296].length=(out++[((c+((limbs x).getD i 0))+((limbs y).getD i 0))%4294967296]).length) (I (by(try simp only[q5b,q5c,q5f])<;>omega:out.length+[((c+((limbs x).getD i 0))+((limbs y).getD i 0))%4294967296].length<=34359738371) (q4P (hI.step2 (by omega) (by first|rfl|(have hq1:= @j4 (limbs x) i;have hq2:= @j4 (limbs y) i;omega)) (by omega):AddX x y (i+1) (((c+((limbs x).getD i 0))+((limbs y).getD i 0))/2^32) (out++[((c+((limbs x).getD i 0))+((limbs y).getD i 0))%4294967296])) (by have:=hI.le (by omega);omega:max (limbs x).length (limbs y).length+1-(i+1)<max (limbs x).length (limbs y).length+1-i))))))) (λh21=>I (?_:out.length=out.length) (I (show(i+1)<=34359738371 by omega:Bnd (.nat .i64) (.n 34359738371) (i+1)) (I (by(try simp only[q5b,q5c,q5f])<;>omega:out.length+[(c+((limbs x).getD i 0))%4294967296].length=(out++[(c+((limbs x).getD i 0))%4294967296]).length) (I (by(try simp only[q5b,q5c,q5f])<;>omega:out.length+[(c+((limbs x).getD i 0))%4294967296].length<=34359738371) (q4P (hI.step2 (by omega) (by first|rfl|(have hq1:= @j4 (limbs x) i;have hq2:= @j4 (limbs y) i;omega)) (by omega):AddX x y (i+1) ((c+((limbs x).getD i 0))/2^32) (out++[(c+((limbs x).getD i 0))%4294967296])) (by have:=hI.le (by omega);omega:max (limbs x).length (limbs y).length+1-(i+1)<max (limbs x).length (limbs y).length+1-i)))))))) (λh22=>Sp (i<(limbs y).length) (λh23=>I (?_:i<(limbs y).length) (I (?_:out.length=out.length) (I (show(i+1)<=34359738371 by omega:Bnd (.nat .i64) (.n 34359738371) (i+1)) (I (by(try simp only[q5b,q5c,q5f])<;>omega:out.length+[(c+((limbs y).getD i 0))%4294967296].length=(out++[(c+((limbs y).getD i 0))%4294967296]).length) (I (by(try simp only[q5b,q5c,q5f])<;>omega:out.length+[(c+((limbs y).getD i 0))%4294967296].length<=34359738371) (q4P (hI.step2 (by omega) (by first|rfl|(have hq1:= @j4 (limbs x) i;have hq2:= @j4 (limbs y) i;omega)) (by omega):AddX x y (i+1) ((c+((limbs y).getD i 0))/2^32) (out++[(c+((limbs y).getD i 0))%4294967296])) (by have:=hI.le (by omega);omega:max (limbs x).length (limbs y).length+1-(i+1)<max (limbs x).length (limbs y).length+1-i))))))) (λh24=>I (?_:out.length=out.length) (I (show(i+1)<=34359738371 by omega:Bnd (.nat .i64) (.n 34359738371) (i+1)) (I (by(try simp only[q5b,q5c,q5f])<;>omega:out.length+[c].length=(out++[c]).length) (I (by(try simp only[q5b,q5c,q5f])<;>omega:out.length+[c].length<=34359738371) (q4P (hI.step2 (by omega) (by first|rfl|(have hq1:= @j4 (limbs x) i;have hq2:= @j4 (limbs y) i;omega)) (by omega):AddX x y (i+1) (c/2^32) (out++[c])) (by have:=hI.le (by omega);omega:max (limbs x).length (limbs y).length+1-(i+1)<max (limbs x).length (limbs y).length+1-i)))))))) (λh25=>I (?_:out.length=out.length) (I (hI.fin (by omega) (by omega) (by omega):out=limbs (x+y)) (I (qj (by decide) (JD hx0 hx1):qM (x+y) 1099511627777) ((Eq.refl (x+y)))))))))))⟩<;>omega)
abbrev q2U:Ctr Tryz.prog:=FI.c q2W
abbrev q30:FI:=⟨93,[.mag,.mag],[(.n 64),(.n 64)],λz=>(λ(x:Nat)(y:Nat)=>[0<y]) z.1 z.2,λb z=>(λ(x:Nat)(y:Nat)=> .tup [.one (.dt .mag (b0 b) (x/y)),.one (.dt .mag (b1 b) (x%y)),.one (.kn .i64 0)]) z.1 z.2⟩
theorem q31:q30.OK Tryz.prog:=qI hmix 163 Tryz.func93 rfl rfl (by decide) [(47,.c FR),(91,.c K7),(95,.c Rr),(149,.c O7)] (λ(x:Nat)(y:Nat) b hx hp=>jB (qg ((Bnds.h2 hx).1.magLe (q5A _ _)) rfl) (jB (qg ((Bnds.h2 hx).2.magLe (q5F (q5O _ (hp _ (q5l))))) rfl) (jB Xr wW))) (λ(x:Nat)(y:Nat) hx hp=>by
 have hx0:qM x 64:=hx.1;have hl0:(limbs x).length<=3:=qu (q5F hx0);have hx1:qM y 64:=hx.2;have hl1:(limbs y).length<=3:=qu (q5F hx1);have hp0:0<y:=hp _ (q5l);have hyp:=mt (nl0 (x:=y)).1 (show¬y=0 by omega)
 refine⟨.cond (.dead) (.cond (.nil) (.cond (.nil) (.dead))),kcast (by kernel_rfl) (Sp ((limbs y).length=0) (λh1=>(absurd (nl0.1 h1) (by omega):False)) (λh2=>Sp (j0 x y<0) (λh3=>q4P ((Nat.div_eq_of_lt (zn.1 (by omega))).symm:0=x/y) ((q5N (zn.1 (by omega))).symm:x=x%y)) (λh4=>have hyx:=(show y<=x from Nat.le_of_not_lt (mt zn.2 (by assumption)));have hly:=wE hyx;Sp (xk x=true) (λh5=>have hlx:=nl64 hx0;have hxx:=(xw_y hlx).1;have hxy:=(xw_y (x:=y) (nl64 hx1)).1;I (?_:0<xw y) (I (?_:0<xw y) (q4P (by rw[(xw_y (x:=x) (nl64 hx0)).1,(xw_y (x:=y) (nl64 hx1)).1]:(xw x)/(xw y)=x/y) (by rw[(xw_y (x:=x) (nl64 hx0)).1,(xw_y (x:=y) (nl64 hx1)).1]:(xw x)%(xw y)=x%y)))) (λh6=>(absurd (xw_y (nl64 hx0)).2 h6:False)))))⟩<;>omega)
abbrev q2Z:Ctr Tryz.prog:=FI.c q31
abbrev q32:FI:=⟨92,[.mag,.mag],[(.n 64),(.n 64)],λ_=>[],λb z=>(λ(x:Nat)(y:Nat)=> .c (.one (.dt .mag (.n (max (b0 b).nb (b1 b).nb)) (Nat.gcd x y)))) z.1 z.2⟩
theorem q33:q32.OK Tryz.prog:=qI hmix 51 Tryz.func92 rfl rfl (by decide) [(91,.c K7),(95,.c Rr),(149,.c O7)] (λ(x:Nat)(y:Nat) b hx hp=>qg (Pc (Bnds.h2 hx).1.mag (Bnds.h2 hx).2.mag) rfl) (λ(x:Nat)(y:Nat) hx hp=>by
 have hx0:qM x 64:=hx.1;have hl0:(limbs x).length<=3:=qu (q5F hx0);have hx1:qM y 64:=hx.2;have hl1:(limbs y).length<=3:=qu (q5F hx1)
 refine⟨.loop [.s 0 .mag (.n 64),.s 1 .mag (.n 64)] (λ((a,b):Nat×Nat)=>a=x/\b=y) (λ((a,b):Nat×Nat)=>0) (λ((a,b):Nat×Nat)=> .cond (.cond (.cond (.loop [.s 5 (.nat .u64) (.n 18446744073709551615),.s 7 (.nat .u64) (.n 18446744073709551615)] (λ((u,v):Nat×Nat)=>Nat.gcd u v=Nat.gcd x y) (λ((u,v):Nat×Nat)=>v) (λ((u,v):Nat×Nat)=> .nil)) (.dead)) (.dead)) (.nil)),kcast (by kernel_rfl) (I (⟨rfl,rfl⟩:x=x/\y=y) (λ(a:Nat)(b:Nat)(hb1:HB [.s 0 .mag (.n 64),.s 1 .mag (.n 64)] (a,b))(hC:a=x/\b=y)=>have ha2:=(nl64 (by rw[hC.1];exact hx0):(limbs a).length<=2);have hb2:=(nl64 (by rw[hC.2];exact hx1):(limbs b).length<=2);Sp (0<(limbs b).length) (λh2=>Sp (xk a=true) (λh3=>Sp (xk b=true) (λh4=>I (by rw[(xw_y ha2).1,(xw_y hb2).1,hC.1,hC.2]:Nat.gcd (xw a) (xw b)=Nat.gcd x y) (λ(u:Nat)(v:Nat)(hb5:HB [.s 5 (.nat .u64) (.n 18446744073709551615),.s 7 (.nat .u64) (.n 18446744073709551615)] (u,v))(hK:Nat.gcd u v=Nat.gcd x y)=>have hv8:=(show u<=18446744073709551615 from hb5.1);have hv9:=(show v<=18446744073709551615 from hb5.2);Sp (v≠0) (λh6=>I (?_:0<v) (q4P ((H9 u v).trans hK:Nat.gcd v (u%v)=Nat.gcd x y) (q5O _ (by omega):u%v<v))) (λh7=>(by rw[show v=0 by omega,Nat.gcd_zero_right]at hK;exact hK:u=Nat.gcd x y)))) (λh10=>(absurd (xw_y hb2).2 h10:False))) (λh11=>(absurd (xw_y ha2).2 h11:False))) (λh12=>(by have e:=nl0.1 (show(limbs b).length=0 by omega);rw[<-hC.1,<-hC.2,e,Nat.gcd_zero_right]:a=Nat.gcd x y))))⟩<;>omega)
abbrev Uc:Ctr Tryz.prog:=FI.c q33
abbrev q0C:FI:=⟨17,[.rat],[(.n 31)],λ_=>[],λb z=>(λ(x:Rat)=> .c (.one (.dt (.int .i64) (.n 1) (qO x)))) z⟩
theorem Q3:q0C.OK Tryz.prog:=qI hmix 9 Tryz.func17 rfl rfl (by decide) [] (λ(x:Rat) b hx hp=>qg (Nz x) rfl) (λ(x:Rat) hx hp=>by
 refine⟨.nil,kcast (by kernel_rfl) (Sp ((limbs x.num.natAbs).length=0) (λh1=>(by rw[qO,if_pos (nl0.1 (by assumption))]:0=qO x)) (λh2=>Sp (x.num<0) (λh3=>(by rw[qO,if_neg (mt nl0.2 (by assumption)),if_pos (by assumption)]:(-1)=qO x)) (λh4=>(by rw[qO,if_neg (mt nl0.2 (by assumption)),if_neg (by assumption)]:1=qO x))))⟩)
abbrev Q2:Ctr Tryz.prog:=FI.c Q3
abbrev q3e:FI:=⟨44,[.rat],[(.n 1099511627776)],λ_=>[],λb z=>(λ(x:Rat)=> .c (.one (.dt .mag (.n ((b0 b).nb+1)) (x.den)))) z⟩
theorem q3f:q3e.OK Tryz.prog:=qI hmix 10 Tryz.func44 rfl rfl (by decide) [] (λ(x:Rat) b hx hp=>qg (wO (Bnds.h1 hx).rat.2) rfl) (λ(x:Rat) hx hp=>by
 have hx0:Bnd .rat (.n 1099511627776) x:=hx
 refine⟨.cond (.h 2 0 (.mk (.im (.nat .u32) (.n 4294967295))) (.h 2 1 (.mag 1 1) (.nil))) (.h 3 1 (.mag x.den 1099511627777) (.nil)),kcast (by kernel_rfl) (Sp ((denL x.den).length=0) (λh1=>I (Au.symm:[1]=limbs 1) (I (JE rfl:qM 1 1) (((Cq x.den_nz (by omega)).symm:1=x.den)))) (λh2=>I (BM (by omega):denL x.den=limbs x.den) (I (wO hx0.2:qM x.den 1099511627777) ((Eq.refl x.den)))))⟩)
abbrev FT:Ctr Tryz.prog:=FI.c q3f
abbrev q0D:FI:=⟨49,[(.int .i64)],[(.n 4611686018427387904)],λ_=>[],λb z=>(λ(v:Int)=> .tup [(.one (.dt .mag (.n (Nat.log2 (b0 b).nb+1)) (v.natAbs))),.one (.dt .bool .u (decide (v<0)))]) z⟩
theorem q0E:q0D.OK Tryz.prog:=qI hmix 15 Tryz.func49 rfl rfl (by decide) [(95,.c Rr)] (λ(v:Int) b hx hp=>jB (qg (Aw (Bnds.h1 hx).int) rfl) (jB (qg trivial rfl) wW)) (λ(v:Int) hx hp=>by
 have hx0:Int.natAbs v<=4611686018427387904:=hx
 refine⟨.cond (.h 2 3 (.i (.n (v.natAbs-1) 4611686018427387904)) (.nil)) (.h 3 1 (.i (.n v.natAbs 4611686018427387904)) (.nil)),kcast (by kernel_rfl) (Sp (v<0) (λh1=>I (by rw[show-(v+1)=((v.natAbs-1:Nat):Int) by omega];exact BI (by omega):IntKind.wrap .u64 (-(v+1))=((v.natAbs-1:Nat):Int)) (I (?_:v.natAbs-1<=4611686018427387904) (q4P (?_:(v.natAbs-1)+1=v.natAbs) ((decide_eq_true (by assumption)).symm:true=decide (v<0))))) (λh2=>I (by rw[show v=((v.natAbs:Nat):Int) by omega];exact BI (by omega):IntKind.wrap .u64 v=((v.natAbs:Nat):Int)) (I (?_:v.natAbs<=4611686018427387904) (q4P (Eq.refl v.natAbs) ((decide_eq_false (by assumption)).symm:false=decide (v<0))))))⟩<;>omega)
abbrev Q4:Ctr Tryz.prog:=FI.c q0E
abbrev Uh:FI:=⟨45,[.bool,.mag,.mag],[.u,(.n 64),(.n 64)],λz=>(λ(neg:Bool)(n:Nat)(d:Nat)=>[0<d]) z.1 z.2.1 z.2.2,λb z=>(λ(neg:Bool)(n:Nat)(d:Nat)=> .c (.agg [.dt .rat (.n (max (b1 b).nb (b2 b).nb)) (qr neg n d)])) z.1 z.2.1 z.2.2⟩
theorem Ui:Uh.OK Tryz.prog:=qI hmix 55 Tryz.func45 rfl rfl (by decide) [(91,.c K7),(92,.c Uc),(93,.c q2Z)] (λ(neg:Bool)(n:Nat)(d:Nat) b hx hp=>v8 (Hx (qj (Nat.le_max_left _ _) (Bnds.h3 hx).2.1.mag) (qj (Nat.le_max_right _ _) (Bnds.h3 hx).2.2.mag))) (λ(neg:Bool)(n:Nat)(d:Nat) hx hp=>by
 have hx1:qM n 64:=hx.2.1;have hl1:(limbs n).length<=3:=qu (q5F hx1);have hx2:qM d 64:=hx.2.2;have hl2:(limbs d).length<=3:=qu (q5F hx2);have hp0:0<d:=hp _ (q5l)
 refine⟨.cond (.nil) ((λ(g:Nat)=> .cond (.cond (.cond (.h 10 3 (.rat (qr neg n d) 64) (.nil)) (.h 10 3 (.rat (qr neg n d) 64) (.nil))) (.h 10 3 (.rat (qr neg n d) 64) (.nil))) (.cond (.cond (.cond (.h 10 3 (.rat (qr neg n d) 64) (.nil)) (.h 10 3 (.rat (qr neg n d) 64) (.nil))) (.h 10 3 (.rat (qr neg n d) 64) (.nil))) (.cond (.cond (.h 10 3 (.rat (qr neg n d) 64) (.nil)) (.h 10 3 (.rat (qr neg n d) 64) (.nil))) (.h 10 3 (.rat (qr neg n d) 64) (.nil))))) (Nat.gcd n d)),kcast (by kernel_rfl) (q4P (λ(h1:(limbs n).length=0)=>(by rw[nl0.1 (show(limbs n).length=0 by assumption),B4]:0=qr neg n d)) (λ(h2: ¬((limbs n).length=0))=>have hn0:=(show 0<n from q5X (mt nl0.2 (by omega)));have hd0:=hp0;(λ(g:Nat)(hg:g=Nat.gcd n d)=>have hg0:=(show 0<g from hg▸Nat.gcd_pos_of_pos_right _ hd0);have hgl:=(q5X (mt nl0.1 (show¬g=0 by omega)):0<(limbs g).length);q4P (λ(h3:(limbs g).length≠1)=>I (by omega:0<g) (I (by omega:0<g) (q4P (λ(h4:(limbs (d/g)).length=1)=>I (by omega:0<(limbs (d/g)).length) (q4P (λ(h5:(limbs (d/g)).getD 0 0=1)=>I ((za hn0 hd0).symm:neg=decide ((qr neg n d).num<0)) (I (by rw[vw hd0,<-hg]<;>first|rfl|(rw[hg1,q5B]<;>rfl):n/g=(qr neg n d).num.natAbs) (I (by rw[(jK hd0).2,<-hg];first|exact BB (by omega) (by omega)|(rw[hg1,q5B];exact BB (by omega) (by omega)):(qr neg n d).den=1) (I ((jo (p:=64) (qj (by decide) hx1) (jJ (qj (by decide) hx2)) hd0).1:qM (qr neg n d).num.natAbs 64) (I ((jo (p:=64) (qj (by decide) hx1) (jJ (qj (by decide) hx2)) hd0).2:le2 (qr neg n d).den 64) ((Eq.refl (qr neg n d)))))))) (λ(h6: ¬((limbs (d/g)).getD 0 0=1))=>I ((za hn0 hd0).symm:neg=decide ((qr neg n d).num<0)) (I (by rw[vw hd0,<-hg]<;>first|rfl|(rw[hg1,q5B]<;>rfl):n/g=(qr neg n d).num.natAbs) (I (Cb (by rw[(jK hd0).2,<-hg]<;>first|rfl|(rw[hg1,q5B]<;>rfl)) (by omega):limbs (d/g)=denL (qr neg n d).den) (I ((jo (p:=64) (qj (by decide) hx1) (jJ (qj (by decide) hx2)) hd0).1:qM (qr neg n d).num.natAbs 64) (I ((jo (p:=64) (qj (by decide) hx1) (jJ (qj (by decide) hx2)) hd0).2:le2 (qr neg n d).den 64) ((Eq.refl (qr neg n d)))))))))) (λ(h7: ¬((limbs (d/g)).length=1))=>I ((za hn0 hd0).symm:neg=decide ((qr neg n d).num<0)) (I (by rw[vw hd0,<-hg]<;>first|rfl|(rw[hg1,q5B]<;>rfl):n/g=(qr neg n d).num.natAbs) (I (Cb (by rw[(jK hd0).2,<-hg]<;>first|rfl|(rw[hg1,q5B]<;>rfl)) (by omega):limbs (d/g)=denL (qr neg n d).den) (I ((jo (p:=64) (qj (by decide) hx1) (jJ (qj (by decide) hx2)) hd0).1:qM (qr neg n d).num.natAbs 64) (I ((jo (p:=64) (qj (by decide) hx1) (jJ (qj (by decide) hx2)) hd0).2:le2 (qr neg n d).den 64) ((Eq.refl (qr neg n d))))))))))) (λ(h8: ¬((limbs g).length≠1))=>I (by omega:0<(limbs g).length) (q4P (λ(h9:(limbs g).getD 0 0≠1)=>I (by omega:0<g) (I (by omega:0<g) (q4P (λ(h10:(limbs (d/g)).length=1)=>I (by omega:0<(limbs (d/g)).length) (q4P (λ(h11:(limbs (d/g)).getD 0 0=1)=>I ((za hn0 hd0).symm:neg=decide ((qr neg n d).num<0)) (I (by rw[vw hd0,<-hg]<;>first|rfl|(rw[hg1,q5B]<;>rfl):n/g=(qr neg n d).num.natAbs) (I (by rw[(jK hd0).2,<-hg];first|exact BB (by omega) (by omega)|(rw[hg1,q5B];exact BB (by omega) (by omega)):(qr neg n d).den=1) (I ((jo (p:=64) (qj (by decide) hx1) (jJ (qj (by decide) hx2)) hd0).1:qM (qr neg n d).num.natAbs 64) (I ((jo (p:=64) (qj (by decide) hx1) (jJ (qj (by decide) hx2)) hd0).2:le2 (qr neg n d).den 64) ((Eq.refl (qr neg n d)))))))) (λ(h12: ¬((limbs (d/g)).getD 0 0=1))=>I ((za hn0 hd0).symm:neg=decide ((qr neg n d).num<0)) (I (by rw[vw hd0,<-hg]<;>first|rfl|(rw[hg1,q5B]<;>rfl):n/g=(qr neg n d).num.natAbs) (I (Cb (by rw[(jK hd0).2,<-hg]<;>first|rfl|(rw[hg1,q5B]<;>rfl)) (by omega):limbs (d/g)=denL (qr neg n d).den) (I ((jo (p:=64) (qj (by decide) hx1) (jJ (qj (by decide) hx2)) hd0).1:qM (qr neg n d).num.natAbs 64) (I ((jo (p:=64) (qj (by decide) hx1) (jJ (qj (by decide) hx2)) hd0).2:le2 (qr neg n d).den 64) ((Eq.refl (qr neg n d)))))))))) (λ(h13: ¬((limbs (d/g)).length=1))=>I ((za hn0 hd0).symm:neg=decide ((qr neg n d).num<0)) (I (by rw[vw hd0,<-hg]<;>first|rfl|(rw[hg1,q5B]<;>rfl):n/g=(qr neg n d).num.natAbs) (I (Cb (by rw[(jK hd0).2,<-hg]<;>first|rfl|(rw[hg1,q5B]<;>rfl)) (by omega):limbs (d/g)=denL (qr neg n d).den) (I ((jo (p:=64) (qj (by decide) hx1) (jJ (qj (by decide) hx2)) hd0).1:qM (qr neg n d).num.natAbs 64) (I ((jo (p:=64) (qj (by decide) hx1) (jJ (qj (by decide) hx2)) hd0).2:le2 (qr neg n d).den 64) ((Eq.refl (qr neg n d))))))))))) (λ(h14: ¬((limbs g).getD 0 0≠1))=>have hg1:=(BB (by omega) (by omega):g=1);q4P (λ(h15:(limbs d).length=1)=>I (by omega:0<(limbs d).length) (q4P (λ(h16:(limbs d).getD 0 0=1)=>I ((za hn0 hd0).symm:neg=decide ((qr neg n d).num<0)) (I (by rw[vw hd0,<-hg]<;>first|rfl|(rw[hg1,q5B]<;>rfl):n=(qr neg n d).num.natAbs) (I (by rw[(jK hd0).2,<-hg];first|exact BB (by omega) (by omega)|(rw[hg1,q5B];exact BB (by omega) (by omega)):(qr neg n d).den=1) (I ((jo (p:=64) (qj (by decide) hx1) (jJ (qj (by decide) hx2)) hd0).1:qM (qr neg n d).num.natAbs 64) (I ((jo (p:=64) (qj (by decide) hx1) (jJ (qj (by decide) hx2)) hd0).2:le2 (qr neg n d).den 64) ((Eq.refl (qr neg n d)))))))) (λ(h17: ¬((limbs d).getD 0 0=1))=>I ((za hn0 hd0).symm:neg=decide ((qr neg n d).num<0)) (I (by rw[vw hd0,<-hg]<;>first|rfl|(rw[hg1,q5B]<;>rfl):n=(qr neg n d).num.natAbs) (I (Cb (by rw[(jK hd0).2,<-hg]<;>first|rfl|(rw[hg1,q5B]<;>rfl)) (by omega):limbs d=denL (qr neg n d).den) (I ((jo (p:=64) (qj (by decide) hx1) (jJ (qj (by decide) hx2)) hd0).1:qM (qr neg n d).num.natAbs 64) (I ((jo (p:=64) (qj (by decide) hx1) (jJ (qj (by decide) hx2)) hd0).2:le2 (qr neg n d).den 64) ((Eq.refl (qr neg n d)))))))))) (λ(h18: ¬((limbs d).length=1))=>I ((za hn0 hd0).symm:neg=decide ((qr neg n d).num<0)) (I (by rw[vw hd0,<-hg]<;>first|rfl|(rw[hg1,q5B]<;>rfl):n=(qr neg n d).num.natAbs) (I (Cb (by rw[(jK hd0).2,<-hg]<;>first|rfl|(rw[hg1,q5B]<;>rfl)) (by omega):limbs d=denL (qr neg n d).den) (I ((jo (p:=64) (qj (by decide) hx1) (jJ (qj (by decide) hx2)) hd0).1:qM (qr neg n d).num.natAbs 64) (I ((jo (p:=64) (qj (by decide) hx1) (jJ (qj (by decide) hx2)) hd0).2:le2 (qr neg n d).den 64) ((Eq.refl (qr neg n d)))))))))))) (Nat.gcd n d) rfl))⟩)
abbrev FU:Ctr Tryz.prog:=FI.c Ui
abbrev q3g:FI:=⟨22,[(.int .i64)],[(.n 4611686018427387904)],λ_=>[],λb z=>(λ(v:Int)=> .c (.agg [.dt .rat (.n (Nat.log2 (b0 b).nb+1)) ((v:Rat))])) z⟩
theorem Ug:q3g.OK Tryz.prog:=qI hmix 13 Tryz.func22 rfl rfl (by decide) [(49,.c Q4)] (λ(v:Int) b hx hp=>v8 (DB (Bnds.h1 hx).int)) (λ(v:Int) hx hp=>by
 have hx0:Int.natAbs v<=4611686018427387904:=hx
 refine⟨.h 2 2 (.rat (v:Rat) 64) (.nil),kcast (by kernel_rfl) (I (by rw[C8]:decide (v<0)=decide ((v:Rat).num<0)) (I (by rw[C8]:v.natAbs=(v:Rat).num.natAbs) (I (G8 v:(v:Rat).den=1) (I (by rw[C8];exact q5J hx0 (by decide):qM (v:Rat).num.natAbs 64) (I (by rw[G8];exact Nat.one_le_two_pow:le2 (v:Rat).den 64) ((Eq.refl (v:Rat))))))))⟩)
abbrev J7:Ctr Tryz.prog:=FI.c Ug
abbrev q0y:FI:=⟨50,[(.int .i64),(.int .i64)],[(.n 4611686018427387904),(.n 4611686018427387904)],λ_=>[],λb z=>(λ(u:Int)(v:Int)=> .tup [.agg [.dt .rat (.n (max (Nat.log2 (b0 b).nb+1) (Nat.log2 (b1 b).nb+1))) ((u:Rat)/(v:Rat))],.one (.dt (.int .i64) (.n 3) (mkC' v))]) z.1 z.2⟩
theorem q0z:q0y.OK Tryz.prog:=qI hmix 29 Tryz.func50 rfl rfl (by decide) [(45,.c FU),(49,.c Q4)] (λ(u:Int)(v:Int) b hx hp=>jB (v8 (Am (Bnds.h2 hx).1.int (Bnds.h2 hx).2.int)) (jB (qg (Xt v) rfl) wW)) (λ(u:Int)(v:Int) hx hp=>by
 have hx0:Int.natAbs u<=4611686018427387904:=hx.1;have hx1:Int.natAbs v<=4611686018427387904:=hx.2
 refine⟨.nil,kcast (by kernel_rfl) (Sp (v=0) (λh1=>q4P (by rw[show v=0 by assumption];simp[Rat.div_def]:0=((u:Int):Rat)/((v:Int):Rat)) ((if_pos (by assumption)).symm:3=mkC' v)) (λh2=>I (?_:0<v.natAbs) (q4P (JF u v:qr (decide ((decide (u<0))≠(decide (v<0)))) u.natAbs v.natAbs=((u:Int):Rat)/((v:Int):Rat)) ((if_neg (by assumption)).symm:0=mkC' v))))⟩<;>omega)
abbrev q0x:Ctr Tryz.prog:=FI.c q0z
abbrev q0v:FI:=⟨24,[(.int .i64),(.int .i64)],[(.n 4611686018427387904),(.n 4611686018427387904)],λ_=>[],λb z=>(λ(u:Int)(v:Int)=> .c (.agg [.dt .rat (.n (max (Nat.log2 (b0 b).nb+1) (Nat.log2 (b1 b).nb+1))) ((u:Rat)/(v:Rat))])) z.1 z.2⟩
theorem q0w:q0v.OK Tryz.prog:=qI hmix 14 Tryz.func24 rfl rfl (by decide) [(50,.c q0x)] (λ(u:Int)(v:Int) b hx hp=>v8 (Am (Bnds.h2 hx).1.int (Bnds.h2 hx).2.int)) (λ(u:Int)(v:Int) hx hp=>by
 refine⟨.nil,kcast (by kernel_rfl) ((Eq.refl (((u:Int):Rat)/((v:Int):Rat))))⟩)
abbrev K8:Ctr Tryz.prog:=FI.c q0w
abbrev q0A:FI:=⟨41,[.rat,.rat],[(.n 31),(.n 31)],λ_=>[],λb z=>(λ(x:Rat)(y:Rat)=> .c (.one (.dt .bool .u (decide (x=y))))) z.1 z.2⟩
theorem q0B:q0A.OK Tryz.prog:=qI hmix 26 Tryz.func41 rfl rfl (by decide) [(47,.c FR)] (λ(x:Rat)(y:Rat) b hx hp=>qg trivial rfl) (λ(x:Rat)(y:Rat) hx hp=>by
 have hx0:Bnd .rat (.n 31) x:=hx.1;have hx1:Bnd .rat (.n 31) y:=hx.2
 refine⟨.cond (.cond (.h 1 15 (.mag (dm x.den) 32) (.h 1 17 (.mag (dm y.den) 32) (.nil))) (.nil)) (.nil),kcast (by kernel_rfl) (Sp ((decide (x.num<0))=(decide (y.num<0))) (λh1=>Sp (j0 x.num.natAbs y.num.natAbs=0) (λh2=>I (Jh _:denL x.den=limbs (dm x.den)) (I (RU hx0.2:qM (dm x.den) 32) (I (Jh _:denL y.den=limbs (dm y.den)) (I (RU hx1.2:qM (dm y.den) 32) ((q3k (by assumption) (by assumption):decide (j0 (dm x.den) (dm y.den)=0)=decide (x=y))))))) (λh3=>(ysame (by first|exact .inl (by assumption)|exact .inr (.inl (by assumption))):false=decide (x=y)))) (λh4=>(ysame (by first|exact .inl (by assumption)|exact .inr (.inl (by assumption))):false=decide (x=y))))⟩)
abbrev Ch:Ctr Tryz.prog:=FI.c q0B
abbrev q39:FI:=⟨21,[.rat,.rat],[(.n 31),(.n 31)],λ_=>[],λb z=>(λ(x:Rat)(y:Rat)=> .c (.agg [.dt .rat (.n ((b0 b).nb+(b1 b).nb+1)) (x+y)])) z.1 z.2⟩
theorem q3a:q39.OK Tryz.prog:=qI hmix 75 Tryz.func21 rfl rfl (by decide) [(43,.c O6),(44,.c FT),(45,.c FU),(46,.c q2U),(47,.c FR),(48,.c q36)] (λ(x:Rat)(y:Rat) b hx hp=>v8 (GP (Bnds.h2 hx).1 (Bnds.h2 hx).2)) (λ(x:Rat)(y:Rat) hx hp=>by
 refine⟨.nil,kcast (by kernel_rfl) (Sp ((limbs x.num.natAbs).length=0) (λh1=>(by rw[wF (x:=x) (nl0.1 (by assumption)),Rat.zero_add]:y=x+y)) (λh2=>Sp ((limbs y.num.natAbs).length=0) (λh3=>(by rw[wF (x:=y) (nl0.1 (by assumption)),Rat.add_zero]:x=x+y)) (λh4=>have hqx:=q5X x.den_nz;have hqy:=q5X y.den_nz;have hqp:=q5W hqx hqy;Sp ((decide (x.num<0))=(decide (y.num<0))) (λh5=>I (hqp:0<x.den*y.den) ((by rw[show x+y=x+yQ (decide (y.num<0)) y by rw[Cg]];first|(have hs:decide (x.num<0)=decide (y.num<0):=(by assumption);rw[hs];exact EX hs)|exact EV (by assumption) (Nat.le_of_not_lt (mt zn.2 (by assumption)))|exact EW (by assumption) (by have h:=zn.1 (show j0 (x.num.natAbs*y.den) (y.num.natAbs*x.den)<0 by assumption);omega):qr (decide (x.num<0)) ((x.num.natAbs*y.den)+(y.num.natAbs*x.den)) (x.den*y.den)=x+y))) (λh6=>Sp (j0 (x.num.natAbs*y.den) (y.num.natAbs*x.den)<0) (λh7=>I (hqp:0<x.den*y.den) ((by rw[show x+y=x+yQ (decide (y.num<0)) y by rw[Cg]];first|(have hs:decide (x.num<0)=decide (y.num<0):=(by assumption);rw[hs];exact EX hs)|exact EV (by assumption) (Nat.le_of_not_lt (mt zn.2 (by assumption)))|exact EW (by assumption) (by have h:=zn.1 (show j0 (x.num.natAbs*y.den) (y.num.natAbs*x.den)<0 by assumption);omega):qr (decide (y.num<0)) ((y.num.natAbs*x.den) -(x.num.natAbs*y.den)) (x.den*y.den)=x+y))) (λh8=>I (hqp:0<x.den*y.den) ((by rw[show x+y=x+yQ (decide (y.num<0)) y by rw[Cg]];first|(have hs:decide (x.num<0)=decide (y.num<0):=(by assumption);rw[hs];exact EX hs)|exact EV (by assumption) (Nat.le_of_not_lt (mt zn.2 (by assumption)))|exact EW (by assumption) (by have h:=zn.1 (show j0 (x.num.natAbs*y.den) (y.num.natAbs*x.den)<0 by assumption);omega):qr (decide (x.num<0)) ((x.num.natAbs*y.den) -(y.num.natAbs*x.den)) (x.den*y.den)=x+y)))))))⟩)
abbrev Uf:Ctr Tryz.prog:=FI.c q3a
abbrev q3i:FI:=⟨23,[.rat,.rat],[(.n 31),(.n 31)],λ_=>[],λb z=>(λ(x:Rat)(y:Rat)=> .c (.agg [.dt .rat (.n ((b0 b).nb+(b1 b).nb)) (x*y)])) z.1 z.2⟩
theorem q3j:q3i.OK Tryz.prog:=qI hmix 21 Tryz.func23 rfl rfl (by decide) [(43,.c O6),(44,.c FT),(45,.c FU)] (λ(x:Rat)(y:Rat) b hx hp=>v8 (Dp (Bnds.h2 hx).1 (Bnds.h2 hx).2)) (λ(x:Rat)(y:Rat) hx hp=>by
 have hqp:=q5W (q5X x.den_nz) (q5X y.den_nz)
 refine⟨.nil,kcast (by kernel_rfl) (have hqx:=q5X x.den_nz;have hqy:=q5X y.den_nz;have hqp:=q5W hqx hqy;I (hqp:0<x.den*y.den) ((DN x y:qr (decide ((decide (x.num<0))≠(decide (y.num<0)))) (x.num.natAbs*y.num.natAbs) (x.den*y.den)=x*y)))⟩)
abbrev q3h:Ctr Tryz.prog:=FI.c q3j
abbrev q3c:FI:=⟨114,[.rat,.rat],[(.n 31),(.n 31)],λ_=>[],λb z=>(λ(x:Rat)(y:Rat)=> .c (.one (.dt (.int .i64) (.n 1) (jp x y)))) z.1 z.2⟩
theorem q3d:q3c.OK Tryz.prog:=qI hmix 34 Tryz.func114 rfl rfl (by decide) [(17,.c Q2),(43,.c O6),(44,.c FT),(47,.c FR)] (λ(x:Rat)(y:Rat) b hx hp=>qg (Mb x y) rfl) (λ(x:Rat)(y:Rat) hx hp=>by
 refine⟨.nil,kcast (by kernel_rfl) (Sp (qO x≠qO y) (λh1=>Sp (qO x<qO y) (λh2=>(?_:(-1)=jp x y)) (λh3=>(?_:1=jp x y))) (λh4=>have hs:=(show qO x=qO y by omega);Sp (x.num<0) (λh5=>(?_: -(j0 (x.num.natAbs*y.den) (y.num.natAbs*x.den))=jp x y)) (λh6=>(?_:j0 (x.num.natAbs*y.den) (y.num.natAbs*x.den)=jp x y))))⟩<;>first|(first|exact((FZ (by assumption)).1 (by assumption)).symm|exact((FZ (by assumption)).2 (by assumption)).symm|exact(OF hs (by assumption)).symm|exact(OG hs (by assumption)).symm))
abbrev q3b:Ctr Tryz.prog:=FI.c q3d
abbrev JN:FI:=⟨213,[(.int .i64),(.int .i64)],[(.n 4611686018427387904),(.n 4611686018427387904)],λ_=>[],λb z=>(λ(u:Int)(v:Int)=> .tup [.agg [.dt .rat (.n (max (Nat.log2 (b0 b).nb+1) (Nat.log2 (b1 b).nb+1))) ((u:Rat)/(v:Rat))],.one (.dt (.int .i64) (.n 3) (mkC' v))]) z.1 z.2⟩
theorem ZM:JN.OK Tryz.prog:=qI hmix 19 Tryz.func213 rfl rfl (by decide) [(123,.c Nm),(125,.c PJ)] (λ(u:Int)(v:Int) b hx hp=>jB (v8 (Am (Bnds.h2 hx).1.int (Bnds.h2 hx).2.int)) (jB (qg (Xt v) rfl) wW)) (λ(u:Int)(v:Int) hx hp=>by
 refine⟨.nil,kcast (by kernel_rfl) (Sp (v=0) (λh1=>q4P (by rw[show v=0 by assumption];simp[Rat.div_def]:0=((u:Int):Rat)/((v:Int):Rat)) ((if_pos (by assumption)).symm:3=mkC' v)) (λh2=>q4P (JF u v:qr (decide ((decide (u<0))≠(decide (v<0)))) u.natAbs v.natAbs=((u:Int):Rat)/((v:Int):Rat)) ((if_neg (by assumption)).symm:0=mkC' v)))⟩)
abbrev q0t:FI:=⟨117,[.rat],[(.n 31)],λ_=>[],λb z=>(λ(x:Rat)=> .c (.one (.dt (.int .i64) (.n ((b0 b).nb+((b0 b).nb+1))) (max ((bl x.num.natAbs:Nat):Int) ((bl x.den:Nat):Int))))) z⟩
theorem q0u:q0t.OK Tryz.prog:=qI hmix 10 Tryz.func117 rfl rfl (by decide) [(44,.c FT),(151,.c q0l)] (λ(x:Rat) b hx hp=>qg (KW (Bnds.h1 hx)) rfl) (λ(x:Rat) hx hp=>by
 refine⟨.nil,kcast (by kernel_rfl) ((Eq.refl (max ((bl x.num.natAbs:Nat):Int) ((bl x.den:Nat):Int))))⟩)
abbrev q0s:Ctr Tryz.prog:=FI.c q0u
abbrev Z5:FI:=⟨4,[(.sl (.int .i64))],[(.s 9223372036854775807 (.n 9223372036854775808))],λ_=>[],λb z=>(λ(l:List Int)=> .c (.one (.dt .bool .u (decide (l.length<=500))))) z⟩
theorem Z6:Z5.OK Tryz.prog:=qI hmix 6 Tryz.func4 rfl rfl (by decide) [] (λ(l:List Int) b hx hp=>qg trivial rfl) (λ(l:List Int) hx hp=>by
 refine⟨.nil,kcast (by kernel_rfl) ((Eq.refl (decide (l.length<=500))))⟩)
abbrev Z4:Ctr Tryz.prog:=FI.c Z6
abbrev q0V:FI:=⟨25,[(.int .i64),(.int .i64)],[(.n 9223372036854775808),(.n 1099511627776)],λz=>(λ(a:Int)(m:Int)=>[(0:Int)<m]) z.1 z.2,λb z=>(λ(a:Int)(m:Int)=> .c (.one (.dt (.int .i64) (.n (b1 b).nb) (a%m)))) z.1 z.2⟩
theorem q0W:q0V.OK Tryz.prog:=qI hmix 14 Tryz.func25 rfl rfl (by decide) [] (λ(a:Int)(m:Int) b hx hp=>qg (SQ (hp _ q5l) (Bnds.h2 hx).2.int) rfl) (λ(a:Int)(m:Int) hx hp=>by
 have hx0:Int.natAbs a<=9223372036854775808:=hx.1;have hx1:Int.natAbs m<=1099511627776:=hx.2;have hp0:(0:Int)<m:=hp _ (q5l)
 refine⟨.nil,kcast (by kernel_rfl) (I (?_:m≠0) (Sp (Int.tmod a m<0) (λh1=>(mod_a hp0 h1:(Int.tmod a m)+m=a%m)) (λh2=>(q3K hp0 h2:Int.tmod a m=a%m))))⟩<;>omega)
abbrev q0U:Ctr Tryz.prog:=FI.c q0W
abbrev Yh:FO:=⟨6,[(.sl (.int .i64))],[(.s 1048576 (.n 9223372036854775808))],λ_=>[],λk b z=> .c (.one (.loc k 0)),λb z=>(λ(l:List Int)=> .rig [.dt (.pr (.sl (.int .i64)) (.nat .i64)) (.p (b0 b) (.n 0)) ((l,0))]) z⟩
theorem Yi:Yh.OK Tryz.prog:=mkO hmix 6 5 Tryz.func6 rfl rfl (by decide) [] (λ_=>rfl) (λ_ _ _=>rfl) (λ_ _=>rfl) (λ_ _ _=>⟨rfl,rfl⟩) (λ(l:List Int) k b hx hp=>⟨⟨trivial,rfl⟩,jT (show Bnd jM (.p (b0 b) (.n 0)) (l,0)from⟨Bnds.h1 hx,q5H _⟩)⟩) (λ(l:List Int) hx hp=>by
 refine bodyO.p (.nil) (kcast (by kernel_rfl) (q4P (rfl:(l,0)=(l,0)) (rfl:5=5))))
abbrev Yg:CtrO Tryz.prog:=FO.c Yi
abbrev Yb:FB:=⟨9,(.pr (.sl (.int .i64)) (.nat .i64)),(.p (.s 1048576 (.n 9223372036854775808)) (.n 1048576)),[(.int .i64)],[(.n 1099511627776)],λs z=>(λ(m:Int)=>[(0:Int)<m]) z,λtb b s z=>(λ(m:Int)=> .c (.one (.dt (.int .i64) (.n (b0 b).nb) (qa s m)))) z,λs z=>q9 s,λtb b=> .p tb.l (.n (max tb.r.nb tb.l.len))⟩
theorem Yc:Yb.OK Tryz.prog:=mkB' hmix 35 Tryz.func9 rfl rfl (by decide) [(25,.c q0U)] (λ_=>rfl) (λ_ _=>rfl) (λ_ _ _ _=>rfl) (λ(s:List Int×Nat)(m:Int) tb b hs hx hp=>⟨qg (Zb (hp _ q5l) (Bnds.h1 hx).int) rfl,B1 hs⟩) (λ(s:List Int×Nat)(m:Int) hs hx hp=>by
 have hx0:Int.natAbs m<=1099511627776:=hx;have hp0:(0:Int)<m:=hp _ (q5l);have hsl:s.1.length<=1048576:=hs.1.1
 refine⟨.cond (.nil) (.h 4 9 (.ix s.2) (.nil)),kcast (by kernel_rfl) (Sp (s.1.length<=s.2) (λh1=>q4P ((if_pos h1).symm:s=q9 s) (((if_pos h1).symm:0=qa s m))) (λh2=>I (?_:((s.2+1:Nat):Int) -1=((s.2:Nat):Int)) (I (?_:s.2<s.1.length) (I (hp0:(0:Int)<m) (q4P ((if_neg h2).symm:(s.1,s.2+1)=q9 s) (((if_neg h2).symm:(s.1.getD s.2 0)%m=qa s m)))))))⟩<;>omega)
abbrev C4:CtrB Tryz.prog:=FB.c Yc
abbrev Y8:FB:=⟨8,(.pr (.sl (.int .i64)) (.nat .i64)),(.p (.s 1048576 (.n 9223372036854775808)) (.n 1048576)),[(.int .i64)],[(.n 1099511627776)],λs z=>(λ(m:Int)=>[(0:Int)<m]) z,λtb b s z=>(λ(m:Int)=> .c (.one (.dt .bool .u (decide (qa s m=m-1))))) z,λs z=>q9 s,λtb b=> .p tb.l (.n (max tb.r.nb tb.l.len))⟩
theorem Y9:Y8.OK Tryz.prog:=mkB' hmix 11 Tryz.func8 rfl rfl (by decide) [(9,.b C4)] (λ_=>rfl) (λ_ _=>rfl) (λ_ _ _ _=>rfl) (λ(s:List Int×Nat)(m:Int) tb b hs hx hp=>⟨qg trivial rfl,B1 hs⟩) (λ(s:List Int×Nat)(m:Int) hs hx hp=>by
 have hp0:(0:Int)<m:=hp _ (q5l)
 refine⟨.nil,kcast (by kernel_rfl) (I (hp0:(0:Int)<m) (q4P (Eq.refl (q9 s)) ((Eq.refl (decide (qa s m=m-1))))))⟩)
abbrev Y7:CtrB Tryz.prog:=FB.c Y9
abbrev Wx:FI:=⟨18,[(.pr .rat (.pr .rat .rat)),(.pr .rat (.pr .rat .rat))],[(.p (.n 31) (.p (.n 31) (.n 31))),(.p (.n 31) (.p (.n 31) (.n 31)))],λ_=>[],λb z=>(λ(p:Rat×Rat×Rat)(q:Rat×Rat×Rat)=> .c (.one (.dt .bool .u (decide (p=q))))) z.1 z.2⟩
theorem NN:Wx.OK Tryz.prog:=qI hmix 24 Tryz.func18 rfl rfl (by decide) [(41,.c Ch)] (λ(p:Rat×Rat×Rat)(q:Rat×Rat×Rat) b hx hp=>qg trivial rfl) (λ(p:Rat×Rat×Rat)(q:Rat×Rat×Rat) hx hp=>by
 refine⟨.nil,kcast (by kernel_rfl) (Sp (decide (p.1=q.1)=true) (λh1=>Sp (decide (p.2.1=q.2.1)=true) (λh2=>(by rw[decide_eq_decide,U0];exact⟨λh=>⟨(yd h1),(yd h2),h⟩,λh=>h.2.2⟩:decide (p.2.2=q.2.2)=decide (p=q))) (λh3=>(XL (.inr (.inl (yd' h3))):false=decide (p=q)))) (λh4=>(XL (.inl (yd' h4)):false=decide (p=q))))⟩)
abbrev Ww:Ctr Tryz.prog:=FI.c NN
abbrev q1C:FI:=⟨38,[.rat],[(.n 1099511627776)],λ_=>[],λb z=>(λ(x:Rat)=> .c (.agg [.dt .rat (b0 b) x])) z⟩
theorem Tf:q1C.OK Tryz.prog:=qI hmix 12 Tryz.func38 rfl rfl (by decide) [(85,.c GW)] (λ(x:Rat) b hx hp=>wz (Bnds.h1 hx)) (λ(x:Rat) hx hp=>by
 have hx0:Bnd .rat (.n 1099511627776) x:=hx
 refine⟨.h 1 7 (.c Cn) (.h 1 8 (.rat x 1099511627776) (.nil)),kcast (by kernel_rfl) (I (Eq.refl (decide (x.num<0))) (I (Eq.refl x.num.natAbs) (I (Eq.refl (denL x.den)) (I (hx0.1:qM x.num.natAbs 1099511627776) (I (hx0.2:le2 x.den 1099511627776) ((Eq.refl x)))))))⟩)
abbrev Nc:Ctr Tryz.prog:=FI.c Tf
abbrev VN:FI:=⟨148,[(.pr .rat (.pr .rat .rat))],[(.p (.n 1099511627776) (.p (.n 1099511627776) (.n 1099511627776)))],λ_=>[],λb z=>(λ(x:Rat×Rat×Rat)=> .c (.agg [.dt tV3 (b0 b) x])) z⟩
theorem VO:VN.OK Tryz.prog:=qI hmix 13 Tryz.func148 rfl rfl (by decide) [(38,.c Nc)] (λ(x:Rat×Rat×Rat) b hx hp=>wz (Bnds.h1 hx)) (λ(x:Rat×Rat×Rat) hx hp=>by
 refine⟨.nil,kcast (by kernel_rfl) ((rfl:(x.1,x.2.1,x.2.2)=x))⟩)
abbrev VM:Ctr Tryz.prog:=FI.c VO
abbrev Zj:FI:=⟨112,[(.pr (.pr .rat (.pr .rat .rat)) .rat)],[(.p (.p (.n 1099511627776) (.p (.n 1099511627776) (.n 1099511627776))) (.n 1099511627776))],λ_=>[],λb z=>(λ(x:(Rat×Rat×Rat)×Rat)=> .c (.agg [.dt (.pr tV3 .rat) (b0 b) x])) z⟩
theorem Zk:Zj.OK Tryz.prog:=qI hmix 10 Tryz.func112 rfl rfl (by decide) [(38,.c Nc),(148,.c VM)] (λ(x:(Rat×Rat×Rat)×Rat) b hx hp=>wz (Bnds.h1 hx)) (λ(x:(Rat×Rat×Rat)×Rat) hx hp=>by
 refine⟨.nil,kcast (by kernel_rfl) ((rfl:(x.1,x.2)=x))⟩)
abbrev Zi:Ctr Tryz.prog:=FI.c Zk
abbrev VE:FI:=⟨110,[(.sl .rat),(.fn 38)],[(.s 1048576 (.n 1099511627776)),.u],λ_=>[],λb z=>(λ(l:List Rat)(u:Unit)=> .c (.one (.dt (.sl .rat) (b0 b) l))) z.1 z.2⟩
theorem VF:VE.OK Tryz.prog:=qI hmix 28 Tryz.func110 rfl rfl (by decide) [(38,.c Nc)] (λ(l:List Rat)(u:Unit) b hx hp=>qg (Bnds.h2 hx).1 rfl) (λ(l:List Rat)(u:Unit) hx hp=>by
 have hl0:l.length<=1048576:=hx.1.1
 refine⟨.cond (.nil) (.h 3 2 (.mk (.arr .rat (.n 1099511627776))) (.loop [.s 15 (.nat .i64) (.n 1048576),.a 12 .rat (.n 1099511627776)] (λ((i,out):Nat×List Rat)=>Cpy l out i) (λ((i,out):Nat×List Rat)=>l.length-i) (λ((i,out):Nat×List Rat)=> .cond (.nil) (.pre 999999 (.frz 12 true [4]) (.nil))))),kcast (by kernel_rfl) (q4P (λ(h1:l=[])=>(by rw[h1]:[]=l)) (I (?_:l.length=l.length) (I (Cpy.start _:Cpy l (List.replicate l.length (0:Rat)) 0) (λ(i:Nat)(out:List Rat)(hb3:HB [.s 15 (.nat .i64) (.n 1048576),.a 12 .rat (.n 1099511627776)] (i,out))(hI:Cpy l out i)=>have hv6:=(show i<=1048576 from hb3.1);have hIl:=hI.hl;have hIi:=hI.hi;Sp (i<l.length) (λh4=>I (?_:i<l.length) (I (?_:i<l.length) (I (?_:i<out.length) (I (show(i+1)<=1048576 by omega:Bnd (.nat .i64) (.n 1048576) (i+1)) (q4P (hI.step _ (by omega):Cpy l (out.set i (l.getD i 0)) (i+1)) (?_:l.length-(i+1)<l.length-i)))))) (λh5=>I (?_:l.length=out.length) ((hI.fin (by omega):out=l)))))))⟩<;>omega)
abbrev VD:Ctr Tryz.prog:=FI.c VF
abbrev VA:FI:=⟨111,[(.sl (.pr (.pr .rat (.pr .rat .rat)) .rat)),(.fn 112)],[(.s 1048576 (.p (.p (.n 1099511627776) (.p (.n 1099511627776) (.n 1099511627776))) (.n 1099511627776))),.u],λ_=>[],λb z=>(λ(l:List ((Rat×Rat×Rat)×Rat))(u:Unit)=> .c (.one (.dt (.sl (.pr tV3 .rat)) (b0 b) l))) z.1 z.2⟩
theorem VB:VA.OK Tryz.prog:=qI hmix 28 Tryz.func111 rfl rfl (by decide) [(112,.c Zi)] (λ(l:List ((Rat×Rat×Rat)×Rat))(u:Unit) b hx hp=>qg (Bnds.h2 hx).1 rfl) (λ(l:List ((Rat×Rat×Rat)×Rat))(u:Unit) hx hp=>by
 have hl0:l.length<=1048576:=hx.1.1
 refine⟨.cond (.nil) (.h 3 2 (.mk (.arr (.pr (.pr .rat (.pr .rat .rat)) .rat) (.p (.p (.n 1099511627776) (.p (.n 1099511627776) (.n 1099511627776))) (.n 1099511627776)))) (.loop [.s 15 (.nat .i64) (.n 1048576),.a 12 (.pr (.pr .rat (.pr .rat .rat)) .rat) (.p (.p (.n 1099511627776) (.p (.n 1099511627776) (.n 1099511627776))) (.n 1099511627776))] (λ((i,out):Nat×List ((Rat×Rat×Rat)×Rat))=>Cpy l out i) (λ((i,out):Nat×List ((Rat×Rat×Rat)×Rat))=>l.length-i) (λ((i,out):Nat×List ((Rat×Rat×Rat)×Rat))=> .cond (.nil) (.pre 999999 (.frz 12 true [4]) (.nil))))),kcast (by kernel_rfl) (q4P (λ(h1:l=[])=>(by rw[h1]:[]=l)) (I (?_:l.length=l.length) (I (Cpy.start _:Cpy l (List.replicate l.length (((0,(0,0)),0):(Rat×Rat×Rat)×Rat)) 0) (λ(i:Nat)(out:List ((Rat×Rat×Rat)×Rat))(hb3:HB [.s 15 (.nat .i64) (.n 1048576),.a 12 (.pr (.pr .rat (.pr .rat .rat)) .rat) (.p (.p (.n 1099511627776) (.p (.n 1099511627776) (.n 1099511627776))) (.n 1099511627776))] (i,out))(hI:Cpy l out i)=>have hv6:=(show i<=1048576 from hb3.1);have hIl:=hI.hl;have hIi:=hI.hi;Sp (i<l.length) (λh4=>I (?_:i<l.length) (I (?_:i<l.length) (I (?_:i<out.length) (I (show(i+1)<=1048576 by omega:Bnd (.nat .i64) (.n 1048576) (i+1)) (q4P (hI.step _ (by omega):Cpy l (out.set i (l.getD i ((0,(0,0)),0))) (i+1)) (?_:l.length-(i+1)<l.length-i)))))) (λh5=>I (?_:l.length=out.length) ((hI.fin (by omega):out=l)))))))⟩<;>omega)
abbrev Vz:Ctr Tryz.prog:=FI.c VB
abbrev Zm:FI:=⟨62,[(.sl .rat)],[(.s 1048576 (.n 1099511627776))],λ_=>[],λb z=>(λ(l:List Rat)=> .c (.one (.dt (.sl .rat) (b0 b) l))) z⟩
theorem Zn:Zm.OK Tryz.prog:=qI hmix 5 Tryz.func62 rfl rfl (by decide) [(110,.c VD)] (λ(l:List Rat) b hx hp=>qg (Bnds.h1 hx) rfl) (λ(l:List Rat) hx hp=>by
 refine⟨.nil,kcast (by kernel_rfl) ((Eq.refl l))⟩)
abbrev Zl:Ctr Tryz.prog:=FI.c Zn
abbrev VQ:FI:=⟨63,[(.sl (.pr (.pr .rat (.pr .rat .rat)) .rat))],[(.s 1048576 (.p (.p (.n 1099511627776) (.p (.n 1099511627776) (.n 1099511627776))) (.n 1099511627776)))],λ_=>[],λb z=>(λ(l:List ((Rat×Rat×Rat)×Rat))=> .c (.one (.dt (.sl (.pr tV3 .rat)) (b0 b) l))) z⟩
theorem VR:VQ.OK Tryz.prog:=qI hmix 5 Tryz.func63 rfl rfl (by decide) [(111,.c Vz)] (λ(l:List ((Rat×Rat×Rat)×Rat)) b hx hp=>qg (Bnds.h1 hx) rfl) (λ(l:List ((Rat×Rat×Rat)×Rat)) hx hp=>by
 refine⟨.nil,kcast (by kernel_rfl) ((Eq.refl l))⟩)
abbrev VP:Ctr Tryz.prog:=FI.c VR
abbrev Vx:FI:=⟨27,[(.pr (.int .i64) (.pr (.sl .rat) (.sl (.pr (.pr .rat (.pr .rat .rat)) .rat))))],[(.p (.n 1048576) (.p (.s 1048576 (.n 1099511627776)) (.s 1048576 (.p (.p (.n 1099511627776) (.p (.n 1099511627776) (.n 1099511627776))) (.n 1099511627776)))))],λ_=>[],λb z=>(λ(x:Int×List Rat×List ((Rat×Rat×Rat)×Rat))=> .c (.agg [.dt (.pr (.int .i64) (.pr (.sl .rat) (.sl (.pr tV3 .rat)))) (b0 b) x])) z⟩
theorem Vy:Vx.OK Tryz.prog:=qI hmix 12 Tryz.func27 rfl rfl (by decide) [(62,.c Zl),(63,.c VP)] (λ(x:Int×List Rat×List ((Rat×Rat×Rat)×Rat)) b hx hp=>wz (Bnds.h1 hx)) (λ(x:Int×List Rat×List ((Rat×Rat×Rat)×Rat)) hx hp=>by
 refine⟨.nil,kcast (by kernel_rfl) ((rfl:(x.1,x.2.1,x.2.2)=x))⟩)
abbrev Vw:Ctr Tryz.prog:=FI.c Vy
abbrev RY:FB:=⟨90,(.pr (.sl (.int .i64)) (.nat .i64)),(.p (.s 1048576 (.n 9223372036854775808)) (.n 1048576)),[],[],λs z=>[],λtb b s z=> .c (.agg [.dt .rat (.n (5)) (numV s)]),λs z=>numS s,λtb b=> .p tb.l (.n (max tb.r.nb tb.l.len))⟩
theorem RZ:RY.OK Tryz.prog:=mkB' hmix 18 Tryz.func90 rfl rfl (by decide) [(9,.b C4),(22,.c J7),(24,.c K8)] (λ_=>rfl) (λ_ _=>rfl) (λ_ _ _ _=>rfl) (λ(s:List Int×Nat)  tb b hs hx hp=>⟨wz (Iy s),SY hs⟩) (λ(s:List Int×Nat)  hs hx hp=>by
 refine⟨.nil,kcast (by kernel_rfl) (I (?_:(0:Int)<13) (I (?_:(0:Int)<4) (Sp (qa (q9 s) 4=3) (λh1=>I (?_:(0:Int)<4) (q4P ((if_pos h1).symm:q9 (q9 (q9 s))=numS s) (((if_pos h1).symm:(((qa s 13) -6:Int):Rat)/((1+(qa (q9 (q9 s)) 4):Int):Rat)=numV s)))) (λh2=>q4P ((if_neg h2).symm:q9 (q9 s)=numS s) (((if_neg h2).symm:(((qa s 13) -6:Int):Rat)=numV s))))))⟩<;>omega)
abbrev RX:CtrB Tryz.prog:=FB.c RZ
abbrev UE:FB:=⟨42,(.pr (.sl (.int .i64)) (.nat .i64)),(.p (.s 1048576 (.n 9223372036854775808)) (.n 1048576)),[],[],λs z=>[],λtb b s z=> .c (.agg [.dt tV3 (bV3 (5)) (A4 s)]),λs z=>vK s,λtb b=> .p tb.l (.n (max tb.r.nb tb.l.len))⟩
theorem UF:UE.OK Tryz.prog:=mkB' hmix 10 Tryz.func42 rfl rfl (by decide) [(90,.b RX)] (λ_=>rfl) (λ_ _=>rfl) (λ_ _ _ _=>rfl) (λ(s:List Int×Nat)  tb b hs hx hp=>⟨q4L (Nh s),Ng hs⟩) (λ(s:List Int×Nat)  hs hx hp=>by
 refine⟨.nil,kcast (by kernel_rfl) (q4P (rfl:numS (numS (numS s))=vK s) ((rfl:(numV s,numV (numS s),numV (numS (numS s)))=A4 s)))⟩)
abbrev UD:CtrB Tryz.prog:=FB.c UF
abbrev WZ:FI:=⟨66,[.rat],[(.n 31)],λ_=>[],λb z=> .c (.one (.vl (.bool true)))⟩
theorem X0:WZ.OK Tryz.prog:=qI hmix 57 Tryz.func66 rfl rfl (by decide) [(44,.c FT),(92,.c Uc),(113,.c WM)] (λ(x:Rat) b hx hp=>AR rfl) (λ(x:Rat) hx hp=>by
 refine⟨.cond (.cond (.dead) (.cond (.cond (.dead) (.cond (.dead) ((λ(g:Nat)=> .cond (.nil) (.dead)) (Nat.gcd x.num.natAbs x.den)))) ((λ(g:Nat)=> .cond (.nil) (.dead)) (Nat.gcd x.num.natAbs x.den)))) (.cond (.cond (.dead) (.cond (.dead) ((λ(g:Nat)=> .cond (.nil) (.dead)) (Nat.gcd x.num.natAbs x.den)))) ((λ(g:Nat)=> .cond (.nil) (.dead)) (Nat.gcd x.num.natAbs x.den))),kcast (by kernel_rfl) (I (An _:(limbs x.num.natAbs).length=0\/(limbs x.num.natAbs).getD ((limbs x.num.natAbs).length-1) 0≠0) (I (Kn x.den:(denL x.den).length=0\/(denL x.den).getD ((denL x.den).length-1) 0≠0) (q4P (λ(h1:(denL x.den).length=1)=>I (by omega:0<(denL x.den).length) (q4P (λ(h2:(denL x.den).getD 0 0=1)=>(PU h1 h2:False)) (λ(h3: ¬((denL x.den).getD 0 0=1))=>q4P (λ(h4:(limbs x.num.natAbs).length=0)=>q4P (λ(h5:x.num<0)=>(GB h4 h5:False)) (λ(h6: ¬(x.num<0))=>q4P (λ(h7:0<(denL x.den).length)=>(HG h4 h7:False)) (λ(h8: ¬(0<(denL x.den).length))=>(λ(g:Nat)(hg:g=Nat.gcd x.num.natAbs x.den)=>have hg1:=(show g=1 from hg.trans (DW x));q4P (λ(h9:(limbs g).length=1)=>I (by omega:0<(limbs g).length) (((AB hg1).2:(limbs g).getD 0 0=1))) (λ(h10: ¬((limbs g).length=1))=>(h10 (AB hg1).1:False))) (Nat.gcd x.num.natAbs x.den) rfl))) (λ(h11: ¬((limbs x.num.natAbs).length=0))=>(λ(g:Nat)(hg:g=Nat.gcd x.num.natAbs x.den)=>have hg1:=(show g=1 from hg.trans (DW x));q4P (λ(h12:(limbs g).length=1)=>I (by omega:0<(limbs g).length) (((AB hg1).2:(limbs g).getD 0 0=1))) (λ(h13: ¬((limbs g).length=1))=>(h13 (AB hg1).1:False))) (Nat.gcd x.num.natAbs x.den) rfl)))) (λ(h14: ¬((denL x.den).length=1))=>q4P (λ(h15:(limbs x.num.natAbs).length=0)=>q4P (λ(h16:x.num<0)=>(GB h15 h16:False)) (λ(h17: ¬(x.num<0))=>q4P (λ(h18:0<(denL x.den).length)=>(HG h15 h18:False)) (λ(h19: ¬(0<(denL x.den).length))=>(λ(g:Nat)(hg:g=Nat.gcd x.num.natAbs x.den)=>have hg1:=(show g=1 from hg.trans (DW x));q4P (λ(h20:(limbs g).length=1)=>I (by omega:0<(limbs g).length) (((AB hg1).2:(limbs g).getD 0 0=1))) (λ(h21: ¬((limbs g).length=1))=>(h21 (AB hg1).1:False))) (Nat.gcd x.num.natAbs x.den) rfl))) (λ(h22: ¬((limbs x.num.natAbs).length=0))=>(λ(g:Nat)(hg:g=Nat.gcd x.num.natAbs x.den)=>have hg1:=(show g=1 from hg.trans (DW x));q4P (λ(h23:(limbs g).length=1)=>I (by omega:0<(limbs g).length) (((AB hg1).2:(limbs g).getD 0 0=1))) (λ(h24: ¬((limbs g).length=1))=>(h24 (AB hg1).1:False))) (Nat.gcd x.num.natAbs x.den) rfl)))))⟩)
abbrev HO:Ctr Tryz.prog:=FI.c X0
abbrev Uk:FI:=⟨64,[(.sl .rat)],[(.s 1048576 (.n 31))],λ_=>[],λb z=> .c (.one (.vl (.bool true)))⟩
theorem Ul:Uk.OK Tryz.prog:=qI hmix 16 Tryz.func64 rfl rfl (by decide) [(66,.c HO)] (λ(l:List Rat) b hx hp=>AR rfl) (λ(l:List Rat) hx hp=>by
 have hl0:l.length<=1048576:=hx.1
 refine⟨.loop [.s 3 (.nat .i64) (.n 1048576)] (λ(i:Nat)=>i<=l.length) (λ(i:Nat)=>l.length-i) (λ(i:Nat)=> .nil),kcast (by kernel_rfl) (I (q64 _:0<=l.length) (λ(i:Nat)(hb1:HB [.s 3 (.nat .i64) (.n 1048576)] i)(hI:i<=l.length)=>have hv4:=(show i<=1048576 from hb1);Sp (i<l.length) (λh2=>I (?_:i<l.length) (I (show(i+1)<=1048576 by omega:Bnd (.nat .i64) (.n 1048576) (i+1)) (q4P ((by omega):(i+1)<=l.length) (?_:l.length-(i+1)<l.length-i)))) (λh3=>trivial)))⟩<;>omega)
abbrev Uj:Ctr Tryz.prog:=FI.c Ul
abbrev Wz:FI:=⟨65,[(.pr .rat (.pr .rat .rat))],[(.p (.n 31) (.p (.n 31) (.n 31)))],λ_=>[],λb z=> .c (.one (.vl (.bool true)))⟩
theorem WD:Wz.OK Tryz.prog:=qI hmix 16 Tryz.func65 rfl rfl (by decide) [(66,.c HO)] (λ(p:Rat×Rat×Rat) b hx hp=>AR rfl) (λ(p:Rat×Rat×Rat) hx hp=>by
 refine⟨.nil,kcast (by kernel_rfl) (trivial)⟩)
abbrev Wy:Ctr Tryz.prog:=FI.c WD
abbrev Vc:FI:=⟨68,[(.sl .rat),(.int .i64)],[(.s 1048576 (.n 31)),(.n 1099511627776)],λ_=>[],λb z=>(λ(k:List Rat)(d:Int)=> .c (.one (.dt (.int .i64) (.n ((b0 b).len+(b1 b).nb+1)) ((k.length:Int) -d-1)))) z.1 z.2⟩
theorem Vd:Vc.OK Tryz.prog:=qI hmix 10 Tryz.func68 rfl rfl (by decide) [] (λ(k:List Rat)(d:Int) b hx hp=>qg (show Int.natAbs ((k.length:Int) -d-1)<=(b0 b).len+(b1 b).nb+1 from by have h1:=(Bnds.h2 hx).1.slm.1;have h2:=(Bnds.h2 hx).2.int;omega) rfl) (λ(k:List Rat)(d:Int) hx hp=>by
 have hl0:k.length<=1048576:=hx.1.1;have hx1:Int.natAbs d<=1099511627776:=hx.2
 refine⟨.nil,kcast (by kernel_rfl) ((?_:(((k.length:Nat):Int) -d) -1=((k.length:Nat):Int) -d-1))⟩<;>omega)
abbrev MN:Ctr Tryz.prog:=FI.c Vd
abbrev q1n:FI:=⟨115,[(.sl .rat)],[(.s 1048576 (.n 31))],λ_=>[],λb z=>(λ(k:List Rat)=> .c (.one (.dt (.sl .rat) (.s ((b0 b).len) (.n ((b0 b).mx))) (dst k)))) z⟩
theorem q1o:q1n.OK Tryz.prog:=qI hmix 34 Tryz.func115 rfl rfl (by decide) [(41,.c Ch)] (λ(k:List Rat) b hx hp=>qg (Xj (Bnds.h1 hx)) rfl) (λ(k:List Rat) hx hp=>by
 have hl0:k.length<=1048576:=hx.1
 refine⟨.loop [.s 4 (.nat .i64) (.n 1048576),.g 3 90003 .rat (.n 31) 1048576] (λ((i,out):Nat×List Rat)=>out=jP k i/\i<=k.length) (λ((i,out):Nat×List Rat)=>k.length-i) (λ((i,out):Nat×List Rat)=> .cond (.cond (.h 6 5 (.mk (.im .rat (.n 31))) (.nil)) (.h 5 9 (.i .sub) (.cond (.h 6 5 (.mk (.im .rat (.n 31))) (.nil)) (.nil)))) (.pre 999999 (.frz 90003 true [2]) (.nil))),kcast (by kernel_rfl) (I (rfl:0=([]:List Rat).length) (I (⟨rfl,q64 _⟩:([]:List Rat)=jP k 0/\0<=k.length) (λ(i:Nat)(out:List Rat)(hb1:HB [.s 4 (.nat .i64) (.n 1048576),.g 3 90003 .rat (.n 31) 1048576] (i,out))(hI:out=jP k i/\i<=k.length)=>have hv8:=(show i<=1048576 from hb1.1);have hv9:=(show out.length<=1048576 from hb1.2.1);have hIo:=hI.1;have hIi:=hI.2;have hIl:=(show out.length<=i from hI.1▸AW k i);Sp (i<k.length) (λh2=>Sp (i=0) (λh3=>I (?_:i<k.length) (I (?_:out.length=out.length) (I (show(i+1)<=1048576 by omega:Bnd (.nat .i64) (.n 1048576) (i+1)) (I (by(try simp only[q5b,q5c,q5f])<;>omega:out.length+[k.getD i 0].length=(out++[k.getD i 0]).length) (I (by(try simp only[q5b,q5c,q5f])<;>omega:out.length+[k.getD i 0].length<=1048576) (q4P (⟨by rw[hIo];exact OJ (.inl h3),by omega⟩:(out++[k.getD i 0])=jP k (i+1)/\(i+1)<=k.length) (?_:k.length-(i+1)<k.length-i))))))) (λh4=>I (?_:i<k.length) (I (?_:1<=i) (I (?_:i-1<k.length) (Sp ((!(decide ((k.getD i 0)=(k.getD (i-1) 0))))=true) (λh5=>I (?_:i<k.length) (I (?_:out.length=out.length) (I (show(i+1)<=1048576 by omega:Bnd (.nat .i64) (.n 1048576) (i+1)) (I (by(try simp only[q5b,q5c,q5f])<;>omega:out.length+[k.getD i 0].length=(out++[k.getD i 0]).length) (I (by(try simp only[q5b,q5c,q5f])<;>omega:out.length+[k.getD i 0].length<=1048576) (q4P (⟨by rw[hIo];exact OJ (.inr (nd h5)),by omega⟩:(out++[k.getD i 0])=jP k (i+1)/\(i+1)<=k.length) (?_:k.length-(i+1)<k.length-i))))))) (λh6=>I (show(i+1)<=1048576 by omega:Bnd (.nat .i64) (.n 1048576) (i+1)) (I (?_:out.length=out.length) (q4P (⟨by rw[hIo];exact q0X h4 (nd' h6),by omega⟩:out=jP k (i+1)/\(i+1)<=k.length) (?_:k.length-(i+1)<k.length-i))))))))) (λh7=>I (?_:out.length=out.length) ((hIo.trans (by rw[show i=k.length by omega]):out=dst k))))))⟩<;>omega)
abbrev q1m:Ctr Tryz.prog:=FI.c q1o
abbrev Vi:FI:=⟨116,[(.sl .rat),.rat],[(.s 1048576 (.n 31)),(.n 31)],λ_=>[],λb z=>(λ(k:List Rat)(t:Rat)=> .c (.one (.dt (.nat .i64) (.n (b0 b).len) (qW k t k.length)))) z.1 z.2⟩
theorem Vj:Vi.OK Tryz.prog:=qI hmix 22 Tryz.func116 rfl rfl (by decide) [(41,.c Ch)] (λ(k:List Rat)(t:Rat) b hx hp=>qg (show qW k t k.length<=(b0 b).len from q5I (BD k t _) (Bnds.h2 hx).1.slm.1) rfl) (λ(k:List Rat)(t:Rat) hx hp=>by
 have hl0:k.length<=1048576:=hx.1.1
 refine⟨.loop [.s 6 (.nat .i64) (.n 1048576),.s 5 (.nat .i64) (.n 1048576)] (λ((i,m):Nat×Nat)=>m=qW k t i/\i<=k.length) (λ((i,m):Nat×Nat)=>k.length-i) (λ((i,m):Nat×Nat)=> .nil),kcast (by kernel_rfl) (I (⟨rfl,q64 _⟩:0=qW k t 0/\0<=k.length) (λ(i:Nat)(m:Nat)(hb1:HB [.s 6 (.nat .i64) (.n 1048576),.s 5 (.nat .i64) (.n 1048576)] (i,m))(hI:m=qW k t i/\i<=k.length)=>have hv6:=(show i<=1048576 from hb1.1);have hv7:=(show m<=1048576 from hb1.2);have hIi:=hI.2;have hIl:=(show m<=i from hI.1▸BD k t i);Sp (i<k.length) (λh2=>I (?_:i<k.length) (Sp (decide ((k.getD i 0)=t)=true) (λh3=>I (show(i+1)<=1048576 by omega:Bnd (.nat .i64) (.n 1048576) (i+1)) (I (show(m+1)<=1048576 by omega:Bnd (.nat .i64) (.n 1048576) (m+1)) (q4P (⟨by rw[qW,if_pos (yd h3),hI.1],by omega⟩:(m+1)=qW k t (i+1)/\(i+1)<=k.length) (?_:k.length-(i+1)<k.length-i)))) (λh4=>I (show(i+1)<=1048576 by omega:Bnd (.nat .i64) (.n 1048576) (i+1)) (q4P (⟨by rw[qW,if_neg (yd' h4),hI.1],by omega⟩:m=qW k t (i+1)/\(i+1)<=k.length) (?_:k.length-(i+1)<k.length-i))))) (λh5=>(by rw[hI.1,show i=k.length by omega]:m=qW k t k.length))))⟩<;>omega)
abbrev Vh:Ctr Tryz.prog:=FI.c Vj
abbrev V9:FI:=⟨67,[(.sl .rat),(.int .i64)],[(.s 1048576 (.n 31)),(.n 1099511627776)],λ_=>[],λb z=>(λ(k:List Rat)(d:Int)=> .c (.one (.dt (.int .i64) (.n 5) (qQ k d)))) z.1 z.2⟩
theorem Va:V9.OK Tryz.prog:=qI hmix 96 Tryz.func67 rfl rfl (by decide) [(68,.c MN),(114,.c q3b),(115,.c q1m),(116,.c Vh)] (λ(k:List Rat)(d:Int) b hx hp=>qg (I0 k d) rfl) (λ(k:List Rat)(d:Int) hx hp=>by
 have hl0:k.length<=1048576:=hx.1.1;have hx1:Int.natAbs d<=1099511627776:=hx.2
 refine⟨.cond (.nil) (.cond (.nil) (.cond (.nil) (.cond (.nil) (.loop [.s 5 (.nat .i64) (.n 1048576)] (λ(i:Nat)=>srtN k i=true/\1<=i/\i<=k.length) (λ(i:Nat)=>k.length-i) (λ(i:Nat)=> .cond (.h 10 6 (.i .sub) (.nil)) (.loop [.s 7 (.nat .i64) (.n 1048576)] (λ(i2:Nat)=>okN k d i2=true/\i2<=(dst k).length) (λ(i2:Nat)=>(dst k).length-i2) (λ(i2:Nat)=> .cond (.cond (.cond (.nil) (.cond (.nil) (.cond (.h 17 28 (.i .sub) (.nil)) (.nil)))) (.h 17 6 (.i .sub) (.cond (.cond (.nil) (.cond (.nil) (.cond (.h 17 28 (.i .sub) (.nil)) (.nil)))) (.cond (.nil) (.cond (.h 17 28 (.i .sub) (.nil)) (.nil)))))) (.nil)))))))),kcast (by kernel_rfl) (Sp (d<1) (λh1=>(Lo (by omega):1=qQ k d)) (λh2=>Sp (6<d) (λh3=>(Lo (by omega):1=qQ k d)) (λh4=>Sp (((k.length:Nat):Int)<(2*d)+2) (λh5=>(X7 (by omega) h5:5=qQ k d)) (λh6=>Sp (40<((k.length:Nat):Int) -d-1) (λh7=>(X8 (by omega) (by omega) (by omega):2=qQ k d)) (λh8=>I (⟨rfl,q5H 1,by omega⟩:srtN k 1=true/\1<=1/\1<=k.length) (λ(i:Nat)(hb9:HB [.s 5 (.nat .i64) (.n 1048576)] i)(hI:srtN k i=true/\1<=i/\i<=k.length)=>have hv52:=(show i<=1048576 from hb9);have hI1:=hI.2.1;have hI2:=hI.2.2;Sp (i<k.length) (λh10=>I (?_:i<k.length) (I (?_:1<=i) (I (?_:i-1<k.length) (Sp (jp (k.getD i 0) (k.getD (i-1) 0)<0) (λh11=>(X9 (by omega) (by omega) (by omega) (PS hI1 h11 (by omega)):5=qQ k d)) (λh12=>I (show(i+1)<=1048576 by omega:Bnd (.nat .i64) (.n 1048576) (i+1)) (q4P (⟨Wk hI.1 h12,by omega,by omega⟩:srtN k (i+1)=true/\1<=(i+1)/\(i+1)<=k.length) (?_:k.length-(i+1)<k.length-i))))))) (λh13=>I (⟨rfl,q64 _⟩:okN k d 0=true/\0<=(dst k).length) (λ(i2:Nat)(hb14:HB [.s 7 (.nat .i64) (.n 1048576)] i2)(hJ:okN k d i2=true/\i2<=(dst k).length)=>have hv51:=(show i2<=1048576 from hb14);have hJ1:=hJ.2;have hdl:=(show(dst k).length<=k.length from AW k k.length);Sp (i2<(dst k).length) (λh15=>I (?_:i2<(dst k).length) (Sp (i2=0) (λh16=>Sp (((qW k ((dst k).getD i2 0) k.length:Nat):Int)≠d+1) (λh17=>(wK (by omega) (by omega) (by omega) (by rw[show k.length=i by omega];exact hI.1) (wi (i:=i2) (by unfold badM;omega) (by omega)):5=qQ k d)) (λh18=>Sp (d+1<((qW k ((dst k).getD i2 0) k.length:Nat):Int)) (λh19=>(wK (by omega) (by omega) (by omega) (by rw[show k.length=i by omega];exact hI.1) (wi (i:=i2) (by unfold badM;omega) (by omega)):5=qQ k d)) (λh20=>Sp (0<i2) (λh21=>I (?_:1<=(dst k).length) (Sp (i2<((dst k).length) -1) (λh22=>Sp (d<((qW k ((dst k).getD i2 0) k.length:Nat):Int)) (λh23=>(wK (by omega) (by omega) (by omega) (by rw[show k.length=i by omega];exact hI.1) (wi (i:=i2) (by unfold badM;omega) (by omega)):5=qQ k d)) (λh24=>I (show(i2+1)<=1048576 by omega:Bnd (.nat .i64) (.n 1048576) (i2+1)) (q4P (⟨vS hJ.1 (by unfold badM;omega),by omega⟩:okN k d (i2+1)=true/\(i2+1)<=(dst k).length) (?_:(dst k).length-(i2+1)<(dst k).length-i2)))) (λh25=>I (show(i2+1)<=1048576 by omega:Bnd (.nat .i64) (.n 1048576) (i2+1)) (q4P (⟨vS hJ.1 (by unfold badM;omega),by omega⟩:okN k d (i2+1)=true/\(i2+1)<=(dst k).length) (?_:(dst k).length-(i2+1)<(dst k).length-i2))))) (λh26=>I (show(i2+1)<=1048576 by omega:Bnd (.nat .i64) (.n 1048576) (i2+1)) (q4P (⟨vS hJ.1 (by unfold badM;omega),by omega⟩:okN k d (i2+1)=true/\(i2+1)<=(dst k).length) (?_:(dst k).length-(i2+1)<(dst k).length-i2)))))) (λh27=>I (?_:1<=(dst k).length) (Sp (i2=((dst k).length) -1) (λh28=>Sp (((qW k ((dst k).getD i2 0) k.length:Nat):Int)≠d+1) (λh29=>(wK (by omega) (by omega) (by omega) (by rw[show k.length=i by omega];exact hI.1) (wi (i:=i2) (by unfold badM;omega) (by omega)):5=qQ k d)) (λh30=>Sp (d+1<((qW k ((dst k).getD i2 0) k.length:Nat):Int)) (λh31=>(wK (by omega) (by omega) (by omega) (by rw[show k.length=i by omega];exact hI.1) (wi (i:=i2) (by unfold badM;omega) (by omega)):5=qQ k d)) (λh32=>Sp (0<i2) (λh33=>I (?_:1<=(dst k).length) (Sp (i2<((dst k).length) -1) (λh34=>Sp (d<((qW k ((dst k).getD i2 0) k.length:Nat):Int)) (λh35=>(wK (by omega) (by omega) (by omega) (by rw[show k.length=i by omega];exact hI.1) (wi (i:=i2) (by unfold badM;omega) (by omega)):5=qQ k d)) (λh36=>I (show(i2+1)<=1048576 by omega:Bnd (.nat .i64) (.n 1048576) (i2+1)) (q4P (⟨vS hJ.1 (by unfold badM;omega),by omega⟩:okN k d (i2+1)=true/\(i2+1)<=(dst k).length) (?_:(dst k).length-(i2+1)<(dst k).length-i2)))) (λh37=>I (show(i2+1)<=1048576 by omega:Bnd (.nat .i64) (.n 1048576) (i2+1)) (q4P (⟨vS hJ.1 (by unfold badM;omega),by omega⟩:okN k d (i2+1)=true/\(i2+1)<=(dst k).length) (?_:(dst k).length-(i2+1)<(dst k).length-i2))))) (λh38=>I (show(i2+1)<=1048576 by omega:Bnd (.nat .i64) (.n 1048576) (i2+1)) (q4P (⟨vS hJ.1 (by unfold badM;omega),by omega⟩:okN k d (i2+1)=true/\(i2+1)<=(dst k).length) (?_:(dst k).length-(i2+1)<(dst k).length-i2)))))) (λh39=>Sp (d+1<((qW k ((dst k).getD i2 0) k.length:Nat):Int)) (λh40=>(wK (by omega) (by omega) (by omega) (by rw[show k.length=i by omega];exact hI.1) (wi (i:=i2) (by unfold badM;omega) (by omega)):5=qQ k d)) (λh41=>Sp (0<i2) (λh42=>I (?_:1<=(dst k).length) (Sp (i2<((dst k).length) -1) (λh43=>Sp (d<((qW k ((dst k).getD i2 0) k.length:Nat):Int)) (λh44=>(wK (by omega) (by omega) (by omega) (by rw[show k.length=i by omega];exact hI.1) (wi (i:=i2) (by unfold badM;omega) (by omega)):5=qQ k d)) (λh45=>I (show(i2+1)<=1048576 by omega:Bnd (.nat .i64) (.n 1048576) (i2+1)) (q4P (⟨vS hJ.1 (by unfold badM;omega),by omega⟩:okN k d (i2+1)=true/\(i2+1)<=(dst k).length) (?_:(dst k).length-(i2+1)<(dst k).length-i2)))) (λh46=>I (show(i2+1)<=1048576 by omega:Bnd (.nat .i64) (.n 1048576) (i2+1)) (q4P (⟨vS hJ.1 (by unfold badM;omega),by omega⟩:okN k d (i2+1)=true/\(i2+1)<=(dst k).length) (?_:(dst k).length-(i2+1)<(dst k).length-i2))))) (λh47=>I (show(i2+1)<=1048576 by omega:Bnd (.nat .i64) (.n 1048576) (i2+1)) (q4P (⟨vS hJ.1 (by unfold badM;omega),by omega⟩:okN k d (i2+1)=true/\(i2+1)<=(dst k).length) (?_:(dst k).length-(i2+1)<(dst k).length-i2))))))))) (λh48=>Sp ((dst k).length<2) (λh49=>(Xa (by omega) (by omega) (by omega) (by rw[show k.length=i by omega];exact hI.1) (by rw[show(dst k).length=i2 by omega];exact hJ.1) (by omega):5=qQ k d)) (λh50=>(Xb (by omega) (by omega) (by omega) (by rw[show k.length=i by omega];exact hI.1) (by rw[show(dst k).length=i2 by omega];exact hJ.1) (by omega):0=qQ k d)))))))))))⟩<;>omega)
abbrev V8:Ctr Tryz.prog:=FI.c Va
abbrev Vf:FI:=⟨69,[(.sl .rat)],[(.s 1048576 (.n 31))],λ_=>[],λb z=> .c (.one (.vl (.bool true)))⟩
theorem Vg:Vf.OK Tryz.prog:=qI hmix 16 Tryz.func69 rfl rfl (by decide) [(117,.c q0s)] (λ(l:List Rat) b hx hp=>AR rfl) (λ(l:List Rat) hx hp=>by
 have hl0:l.length<=1048576:=hx.1;have he0: ∀u∈l,Bnd .rat (.n 31) u:=hx.2
 refine⟨.loop [.s 3 (.nat .i64) (.n 1048576)] (λ(i:Nat)=>i<=l.length) (λ(i:Nat)=>l.length-i) (λ(i:Nat)=> .cond (.cond (.dead) (.nil)) (.nil)),kcast (by kernel_rfl) (I (q64 _:0<=l.length) (λ(i:Nat)(hb1:HB [.s 3 (.nat .i64) (.n 1048576)] i)(hI:i<=l.length)=>have hv6:=(show i<=1048576 from hb1);Sp (i<l.length) (λh2=>I (?_:i<l.length) (Sp (2048<max ((bl (l.getD i 0).num.natAbs:Nat):Int) ((bl (l.getD i 0).den:Nat):Int)) (λh3=>(absurd h3 (by have:=LZ (OU he0 i);unfold v7 at this;omega):False)) (λh4=>I (show(i+1)<=1048576 by omega:Bnd (.nat .i64) (.n 1048576) (i+1)) (q4P ((by omega):(i+1)<=l.length) (?_:l.length-(i+1)<l.length-i))))) (λh5=>trivial)))⟩<;>omega)
abbrev Ve:Ctr Tryz.prog:=FI.c Vg
abbrev Wc:FI:=⟨54,[.rat],[(.n 31)],λ_=>[],λb z=> .c (.one (.vl (.bool true)))⟩
theorem Ns:Wc.OK Tryz.prog:=qI hmix 52 Tryz.func54 rfl rfl (by decide) [(98,.c Vs),(99,.c HX),(100,.c gcd_c)] (λ(x:Rat) b hx hp=>AR rfl) (λ(x:Rat) hx hp=>by
 have hx0:Bnd .rat (.n 31) x:=hx;have hx0:Bnd .rat (.n 31) x:=hx
 refine⟨.cond (.cond (.dead) (.cond (.cond (.nil) (.dead)) (.cond (.nil) (.h 5 8 (.mag x.den 32) (.nil))))) (.cond (.cond (.nil) (.dead)) (.cond (.nil) (.h 5 8 (.mag x.den 32) (.nil)))),kcast (by kernel_rfl) (I (An _:(limbs x.num.natAbs).length=0\/(limbs x.num.natAbs).getD ((limbs x.num.natAbs).length-1) 0≠0) (I (Kn x.den:(denL x.den).length=0\/(denL x.den).getD ((denL x.den).length-1) 0≠0) (Sp ((denL x.den).length=1) (λh1=>I (?_:0<(denL x.den).length) (Sp ((denL x.den).getD 0 0=1) (λh2=>(PU h1 h2:False)) (λh3=>Sp ((limbs x.num.natAbs).length=0) (λh4=>Sp (¬(x.num<0)) (λh5=>(U3 h4:(denL x.den).length=0)) (λh6=>(GB h4 (Decidable.of_not_not h6):False))) (λh7=>Sp ((denL x.den).length=0) (λh8=>trivial) (λh9=>I (RS (by assumption):denL x.den=limbs x.den) (I (wO hx0.2:qM x.den 32) ((RA x:bl (Nat.gcd x.num.natAbs x.den)=1)))))))) (λh10=>Sp ((limbs x.num.natAbs).length=0) (λh11=>Sp (¬(x.num<0)) (λh12=>(U3 h11:(denL x.den).length=0)) (λh13=>(GB h11 (Decidable.of_not_not h13):False))) (λh14=>Sp ((denL x.den).length=0) (λh15=>trivial) (λh16=>I (RS (by assumption):denL x.den=limbs x.den) (I (wO hx0.2:qM x.den 32) ((RA x:bl (Nat.gcd x.num.natAbs x.den)=1)))))))))⟩<;>omega)
abbrev Wb:Ctr Tryz.prog:=FI.c Ns
abbrev YT:FI:=⟨101,[(.sl .rat),(.fn 70)],[(.s 1048576 (.n 31)),.u],λz=>(λ(k:List Rat)(u:Unit)=>[0<k.length]) z.1 z.2,λb z=>(λ(k:List Rat)(u:Unit)=> .c (.one (.dt .bool .u (srtN k k.length)))) z.1 z.2⟩
theorem YU:YT.OK Tryz.prog:=qI hmix 25 Tryz.func101 rfl rfl (by decide) [(70,.c Nl)] (λ(k:List Rat)(u:Unit) b hx hp=>qg trivial rfl) (λ(k:List Rat)(u:Unit) hx hp=>by
 have hl0:k.length<=1048576:=hx.1.1;have hp0:0<k.length:=hp _ (q5l)
 refine⟨.h 1 2 (.i .sub) (.loop [.s 5 (.nat .i64) (.n 1048576)] (λ(i:Nat)=>SrtI k i/\i<k.length) (λ(i:Nat)=>i) (λ(i:Nat)=> .cond (.h 4 7 (.i .sub) (.cond (.nil) (.h 3 1 (.i .sub) (.nil)))) (.nil))),kcast (by kernel_rfl) (I (?_:1<=k.length) (I (⟨SrtI.start k,by omega⟩:SrtI k (k.length-1)/\(k.length-1)<k.length) (λ(i:Nat)(hb1:HB [.s 5 (.nat .i64) (.n 1048576)] i)(hI:SrtI k i/\i<k.length)=>have hv6:=(show i<=1048576 from hb1);have hI1:=hI.2;Sp (0<i) (λh2=>I (?_:i<k.length) (I (?_:1<=i) (I (?_:i-1<k.length) (Sp (jp (k.getD i 0) (k.getD (i-1) 0)<0) (λh3=>((PS (by omega) h3 hI1).symm:false=srtN k k.length)) (λh4=>I (?_:1<=i) (q4P (⟨hI.1.step h4,by omega⟩:SrtI k (i-1)/\(i-1)<k.length) (?_:(i-1)<i))))))) (λh5=>((hI.1.fin (by omega)).symm:true=srtN k k.length)))))⟩<;>omega)
abbrev YS:Ctr Tryz.prog:=FI.c YU
abbrev V6:FI:=⟨104,[(.sl .rat),.rat],[(.s 1048576 (.n 31)),(.n 31)],λ_=>[],λb z=>(λ(k:List Rat)(t:Rat)=> .c (.one (.dt (.nat .i64) (.n (b0 b).len) (qW k t k.length)))) z.1 z.2⟩
theorem V7:V6.OK Tryz.prog:=qI hmix 21 Tryz.func104 rfl rfl (by decide) [(102,.c JO)] (λ(k:List Rat)(t:Rat) b hx hp=>qg (show qW k t k.length<=(b0 b).len from q5I (BD k t _) (Bnds.h2 hx).1.slm.1) rfl) (λ(k:List Rat)(t:Rat) hx hp=>by
 have hl0:k.length<=1048576:=hx.1.1
 refine⟨.loop [.s 10 (.nat .i64) (.n 1048576),.s 5 (.nat .i64) (.n 1048576)] (λ((i,m):Nat×Nat)=>m=qW k t i/\i<=k.length) (λ((i,m):Nat×Nat)=>k.length-i) (λ((i,m):Nat×Nat)=> .nil),kcast (by kernel_rfl) (I (⟨rfl,q64 _⟩:0=qW k t 0/\0<=k.length) (λ(i:Nat)(m:Nat)(hb1:HB [.s 10 (.nat .i64) (.n 1048576),.s 5 (.nat .i64) (.n 1048576)] (i,m))(hI:m=qW k t i/\i<=k.length)=>have hv6:=(show i<=1048576 from hb1.1);have hv7:=(show m<=1048576 from hb1.2);have hIi:=hI.2;have hIl:=(show m<=i from hI.1▸BD k t i);Sp (i<k.length) (λh2=>I (?_:i<k.length) (Sp (decide ((k.getD i 0)=t)=true) (λh3=>I (show(i+1)<=1048576 by omega:Bnd (.nat .i64) (.n 1048576) (i+1)) (I (show(m+1)<=1048576 by omega:Bnd (.nat .i64) (.n 1048576) (m+1)) (q4P (⟨by rw[qW,if_pos (yd h3),hI.1],by omega⟩:(m+1)=qW k t (i+1)/\(i+1)<=k.length) (?_:k.length-(i+1)<k.length-i)))) (λh4=>I (show(i+1)<=1048576 by omega:Bnd (.nat .i64) (.n 1048576) (i+1)) (q4P (⟨by rw[qW,if_neg (yd' h4),hI.1],by omega⟩:m=qW k t (i+1)/\(i+1)<=k.length) (?_:k.length-(i+1)<k.length-i))))) (λh5=>(by rw[hI.1,show i=k.length by omega]:m=qW k t k.length))))⟩<;>omega)
abbrev V5:Ctr Tryz.prog:=FI.c V7
abbrev V2:FI:=⟨105,[(.sl .rat),(.int .i64)],[(.s 1048576 (.n 31)),(.n 1099511627776)],λ_=>[],λb z=>(λ(k:List Rat)(d:Int)=> .c (.one (.dt (.int .i64) (.n ((b0 b).len+(b1 b).nb+1)) ((k.length:Int) -d-1)))) z.1 z.2⟩
theorem V4:V2.OK Tryz.prog:=qI hmix 10 Tryz.func105 rfl rfl (by decide) [] (λ(k:List Rat)(d:Int) b hx hp=>qg (show Int.natAbs ((k.length:Int) -d-1)<=(b0 b).len+(b1 b).nb+1 from by have h1:=(Bnds.h2 hx).1.slm.1;have h2:=(Bnds.h2 hx).2.int;omega) rfl) (λ(k:List Rat)(d:Int) hx hp=>by
 have hl0:k.length<=1048576:=hx.1.1;have hx1:Int.natAbs d<=1099511627776:=hx.2
 refine⟨.nil,kcast (by kernel_rfl) ((?_:(((k.length:Nat):Int) -d) -1=((k.length:Nat):Int) -d-1))⟩<;>omega)
abbrev MJ:Ctr Tryz.prog:=FI.c V4
abbrev Su:FO:=⟨163,[(.sl .rat)],[(.s 1048576 (.n 29))],λ_=>[],λk b z=>(λ(q:List Rat)=> .c (.one (.gs k (q.length) 3 ((b0 b).len)))) z,λb z=>(λ(q:List Rat)=> .gro .rat ((b0 b).e) (q)) z⟩
theorem Sv:Su.OK Tryz.prog:=mkO hmix 23 90004 Tryz.func163 rfl rfl (by decide) [(74,.c Px)] (λ_=>rfl) (λ_ _ _=>rfl) (λ_ _=>rfl) (λ_ _ _=>⟨rfl,rfl⟩) (λ(q:List Rat) k b hx hp=>⟨qg (Bnds.h1 hx).sl.1 rfl,(Bnds.h1 hx).sl.2⟩) (λ(q:List Rat) hx hp=>by
 have hl0:q.length<=1048576:=hx.1
 refine bodyO.g (.h 1 2 (.mk (.gro .rat (.n 31))) (.loop [.s 11 (.nat .i64) (.n 1048576),.g 3 90004 .rat (.n 31) 1048576] (λ((i,o):Nat×List Rat)=>o=q.take i/\i<=q.length) (λ((i,o):Nat×List Rat)=>q.length-i) (λ((i,o):Nat×List Rat)=> .cond (.h 5 4 (.mk (.im .rat (.n 31))) (.nil)) (.nil)))) (kcast (by kernel_rfl) (I (rfl:0=([]:List Rat).length) (I (⟨rfl,q64 _⟩:([]:List Rat)=q.take 0/\0<=q.length) (λ(i:Nat)(o:List Rat)(hb1:HB [.s 11 (.nat .i64) (.n 1048576),.g 3 90004 .rat (.n 31) 1048576] (i,o))(hI:o=q.take i/\i<=q.length)=>have hv4:=(show i<=1048576 from hb1.1);have hv5:=(show o.length<=1048576 from hb1.2.1);have hIi:=hI.2;have hol:=(show o.length=i from by rw[hI.1,q5g];omega);Sp (i<q.length) (λh2=>I (?_:i<q.length) (I (?_:o.length=o.length) (I (show(i+1)<=1048576 by omega:Bnd (.nat .i64) (.n 1048576) (i+1)) (I (by(try simp only[q5b,q5c,q5f])<;>omega:o.length+[(q.getD i 0)+0].length=(o++[(q.getD i 0)+0]).length) (I (by(try simp only[q5b,q5c,q5f])<;>omega:o.length+[(q.getD i 0)+0].length<=1048576) (q4P (⟨by rw[hI.1,Rat.add_zero,Az (d:=0) (by omega)],by omega⟩:(o++[(q.getD i 0)+0])=q.take (i+1)/\(i+1)<=q.length) (?_:q.length-(i+1)<q.length-i))))))) (λh3=>q4P (by rw[hI.1,q5u (by omega)]:o=q) ((?_:o.length=q.length)))))))<;>omega)
abbrev St:CtrO Tryz.prog:=FO.c Sv
abbrev eqR:Rat->Rat->Bool:=λx y=>decide (x=y)
theorem Ur{t:Ty}{l:List t.den}{lo n:Nat}(h:lo+n<=l.length):(clrL t l lo n).length=l.length:=by
 unfold clrL;simp only[q5b,q5g,List.length_replicate,q5d];omega
def unqL(l:List Rat):List Rat:=dst l++List.replicate (l.length-(dst l).length) 0
theorem Mo(l:List Rat):(dst l).length<=l.length:=AW l _
theorem Wu(l:List Rat):(unqL l).length=l.length:=by
 have:=Mo l;unfold unqL;simp only[q5b,List.length_replicate];omega
theorem TY(l:List Rat):(unqL l).take (dst l).length=dst l:=by unfold unqL;simp
theorem L9{l:List Rat}(h:dst l=l):l=unqL l:=by unfold unqL;rw[h];simp
theorem q2O{l:List Rat}{b:Bd}(h: ∀u∈l,Bnd .rat b u)(hb: ∀m,b= .n m->True)(h0:Bnd .rat b 0): ∀u∈unqL l,Bnd .rat b u:=λu hu=>by
 rcases q5i.1 hu with hu|hu
 .exact h u (Eb (q5H _) u hu)
 .rw[List.eq_of_mem_replicate hu];exact h0
theorem Kp{l:List Rat}(h:l.length<2):dst l=l:=by
 match l,h with
 |[],_=>rfl
 |[x],_=>rfl
theorem CmO.dst{l:List Rat}{i:Nat}(h:CmO 0 eqR l i)(hi: ¬i<l.length):Sx.dst l=l:=by
 have:=h.fin hi
 rwa [HD]at this
theorem CmI.dst{l m:List Rat}{k i n:Nat}(h:CmI 0 eqR l m k i)(hi:i=l.length)(hn:n=l.length):clrL .rat m k (n-k)=unqL l/\k=(Sx.dst l).length:=by
 obtain⟨h1,h2,h3⟩:=h.fin hi;rw[HD]at h1 h2;refine⟨?_,h2⟩;unfold clrL unqL;have hl:=h.hl;rw[h1,q4Z (by show m.length<=_;omega),List.append_nil,hn,<-h2];rfl
def numN(ps:List Pole):Nat->List Rat
 |0=>[]
 |n+1=>numN ps n++[(ps.getD n d0).1.1,(ps.getD n d0).1.2.1,(ps.getD n d0).1.2.2,(ps.getD n d0).2]
theorem Hn(ps:List Pole): ∀n,(numN ps n).length=4*n
 |0=>rfl
 |n+1=>by simp only[numN,q5b,Hn ps n,q5c,q5f];omega
theorem SW{ps:List Pole}{b:Bd}(h: ∀p∈ps,Bnd (.pr tV3 .rat) b p): ∀n,n<=ps.length-> ∀v∈numN ps n,Bnd .rat (.n b.mx) v
 |0,_,v,hv=>by cases hv
 |n+1,hn,v,hv=>by
  rcases q5i.1 hv with hv|hv
  .exact SW h n (by omega) v hv
  .have g:=Bnd.pole (h _ (show ps.getD n d0∈ps by rw[El (by omega)];exact List.getElem_mem _))
   simp only[q5j,q5r,or_false]at hv;rcases hv with rfl|rfl|rfl|rfl
   .exact g.1.1
   .exact g.1.2.1
   .exact g.1.2.2
   .exact g.2
abbrev QK:FV:=⟨162,true,.rat,(.n 31),1048576,[(.fn 102)],[.u],λl lo n cap z=>[n=l.length],λk b l lo n cap z=> .c (.one (.gs k (dst l).length 3 1048576)),λl lo n cap z=>unqL l⟩
theorem QL:QK.OK Tryz.prog:=mkSl hmix 66 Tryz.func162 rfl rfl (by decide) [(102,.c JO)] (λ_=>rfl) (λ_ _ _ _ _=>rfl) (λ_ _ _ _ _ _ _=>rfl) (λ_ _ _ _ _ _=>rfl) (λ(l:List Rat)(lo n cap:Nat)(u:Unit) k b hx hs hn(hm:n<=1048576) hp=>⟨qg (show(dst l).length<=1048576 from by have:=Mo l;have h0:=hp _ q5l;omega) rfl,q2O hs (λ_ _=>trivial) (Ba _)⟩) (λ(l:List Rat)(lo n cap:Nat)(u:Unit) hs hx hn(hm:n<=1048576) hp=>by
 have hp0:n=l.length:=hp _ (q5l)
 refine⟨.cond (.nil) (.loop [.s 5 (.nat .i64) (.n 1048576),.bk 100000 .rat (.n 31)] (λ((f,m0):Nat×List Rat)=>m0=l/\CmO 0 eqR m0 f) (λ((f,m0):Nat×List Rat)=>n-f) (λ((f,m0):Nat×List Rat)=> .cond (.h 6 7 (.i .sub) (.cond (.loop [.s 7 (.nat .i64) (.n 1048576),.s 5 (.nat .i64) (.n 1048576),.bk 100000 .rat (.n 31)] (λ((q,j,m):Nat×Nat×List Rat)=>CmI 0 eqR l m j (f+q)/\1<=q) (λ((q,j,m):Nat×Nat×List Rat)=>n-f-q) (λ((q,j,m):Nat×Nat×List Rat)=> .cond (.h 11 7 (.i .sub) (.nil)) (.nil))) (.nil))) (.nil))),kcast (by kernel_rfl) (Sp (n<2) (λh1=>q4P (L9 (Kp (by omega)):l=unqL l) ((by rw[Kp (by omega)];exact hp0:n=(dst l).length))) (λh2=>I (⟨rfl,CmO.start (by omega)⟩:l=l/\CmO 0 eqR l 1) (λ(f:Nat)(m0:List Rat)(hb3:HB [.s 5 (.nat .i64) (.n 1048576),.bk 100000 .rat (.n 31)] (f,m0))(hI:m0=l/\CmO 0 eqR m0 f)=>have hv15:=(show f<=1048576 from hb3.1);have hml:=(show m0.length=n from by rw[hI.1];exact hp0.symm);have hf1:=hI.2.h1;have hf2:=hI.2.hl;Sp (f<n) (λh4=>I (?_:f<n) (I (?_:f<m0.length) (I (?_:1<=f) (I (?_:f-1<n) (I (?_:f-1<m0.length) (Sp (decide ((m0.getD f 0)=(m0.getD (f-1) 0))=true) (λh5=>I (?_:f<=n) (I (?_:n<=m0.length) (I (⟨by have h:=CmI.start hI.2 (by omega) h5;have e:=hI.1;subst e;exact h,q5H 1⟩:CmI 0 eqR l m0 f (f+1)/\1<=1) (λ(q:Nat)(j:Nat)(m:List Rat)(hb6:HB [.s 7 (.nat .i64) (.n 1048576),.s 5 (.nat .i64) (.n 1048576),.bk 100000 .rat (.n 31)] (q,j,m))(hJ:CmI 0 eqR l m j (f+q)/\1<=q)=>have hv11:=(show q<=1048576 from hb6.1);have hv12:=(show j<=1048576 from hb6.2.1);have hjl:=hJ.1.hl;have hj1:=hJ.1.hk;have hj2:=hJ.1.hi;have hj3:=hJ.2;Sp (q<n-f) (λh7=>I (?_:q<n-f) (I (?_:f+q<m.length) (I (?_:1<=q) (I (?_:q-1<n-f) (I (?_:f+(q-1)<m.length) (Sp ((!(decide ((m.getD (f+q) 0)=(m.getD (f+(q-1)) 0))))=true) (λh8=>I (?_:q<n-f) (I (?_:f+q<m.length) (I (?_:j<n) (I (?_:j<m.length) (I (show(q+1)<=1048576 by omega:Bnd (.nat .i64) (.n 1048576) (q+1)) (I (show(j+1)<=1048576 by omega:Bnd (.nat .i64) (.n 1048576) (j+1)) (q4P (⟨by rw[show f+(q+1)=f+q+1 by omega];exact hJ.1.go (by omega) (by rw[show f+q-1=f+(q-1) by omega];exact mt of_decide_eq_true (nd h8)),by omega⟩:CmI 0 eqR l (m.set j (m.getD (f+q) 0)) (j+1) (f+(q+1))/\1<=(q+1)) (?_:n-f-(q+1)<n-f-q)))))))) (λh9=>I (show(q+1)<=1048576 by omega:Bnd (.nat .i64) (.n 1048576) (q+1)) (q4P (⟨by rw[show f+(q+1)=f+q+1 by omega];exact hJ.1.stay (by omega) (by rw[show f+q-1=f+(q-1) by omega];exact decide_eq_true (nd' h9)),by omega⟩:CmI 0 eqR l m j (f+(q+1))/\1<=(q+1)) (?_:n-f-(q+1)<n-f-q))))))))) (λh10=>I (?_:j<=n) (I (?_:n<=m.length) (I (?_:0<n-j) (I (?_:j+(n-j)<=m.length) (I (?_:j<=n) (I (by rw[Ur (t:= .rat) (by omega)];omega:n<=(clrL .rat m j (n-j)).length) (q4P ((hJ.1.dst (by omega) (by omega)).1:clrL .rat m j (n-j)=unqL l) (((hJ.1.dst (n:=n) (by omega) (by omega)).2:j=(dst l).length))))))))))))) (λh13=>I (show(f+1)<=1048576 by omega:Bnd (.nat .i64) (.n 1048576) (f+1)) (q4P (⟨hI.1,hI.2.step (by omega) h13⟩:m0=l/\CmO 0 eqR m0 (f+1)) (?_:n-(f+1)<n-f))))))))) (λh14=>q4P (by have hd:=hI.2.dst (by omega);rw[hI.1]at hd⊢;exact L9 hd:m0=unqL l) ((by have hd:=hI.2.dst (by omega);rw[hI.1]at hd;rw[hd];exact hp0:n=(dst l).length))))))⟩<;>omega)
abbrev QJ:CtrS Tryz.prog:=FV.c QL
theorem Tv{a b c:Rat}(h:a<b)(g:b<c):a<c:=by grind
theorem CV{l:List Rat}{x:Rat}{i:Nat}(h:i<l.length):(l++[x]).getD i 0=l.getD i 0:=by
 rw[q53,List.getElem?_append_left h,<-q53]
theorem Kz{l:List Rat}{x:Rat}:(l++[x]).getD l.length 0=x:=by simp[q53]
structure DsO (k m:List Rat) (n:Nat):Prop where
 h0:0<m.length
 hf:m.getD 0 0=k.getD 0 0
 hl:m.getD (m.length-1) 0=k.getD (n-1) 0
 hs: ∀i j,i<j->j<m.length->m.getD i 0<m.getD j 0
theorem dsO{k:List Rat}: ∀{n:Nat},0<n->srtN k n=true->DsO k (jP k n) n
 |0,h,_=>absurd h (by omega)
 |1,_,_=>⟨by simp[jP],by simp[jP],by simp[jP],λi j h1 h2=>by simp[jP]at h2;omega⟩
 |n+2,_,hs=>by
  have hs0:srtN k (n+1)=true:=by rw[srtN,q4R]at hs;exact hs.1
  have ih:=dsO (k:=k) (n:=n+1) (by omega) hs0;have hle:=Hy.1 hs (n+1) (by omega) (by omega);rw[show n+1-1=n by omega]at hle;have hl:=ih.hl;rw[show n+1-1=n by omega]at hl;rw[jP];by_cases hc:n+1=0\/k.getD (n+1) 0≠k.getD (n+1-1) 0
  .rw[if_pos hc]
   have hne:k.getD (n+1) 0≠k.getD n 0:=hc.resolve_left (by omega);have hlt:k.getD n 0<k.getD (n+1) 0:=Rat.lt_of_le_of_ne (Rat.not_lt.1 (mt q0O.2 hle)) (Ne.symm hne);have len:(jP k (n+1)++[k.getD (n+1) 0]).length=(jP k (n+1)).length+1:=by simp
   refine⟨by rw[len];omega,by rw[CV ih.h0];exact ih.hf,by rw[len,Nat.add_sub_cancel,Kz];rfl,λi j hij hj=>?_⟩;rw[len]at hj;rcases q5L j (jP k (n+1)).length with h|h
   .rw[CV (by omega),CV h];exact ih.hs i j hij h
   .have e:j=(jP k (n+1)).length:=by omega
    subst e;rw[CV hij,Kz];rcases Nat.eq_or_lt_of_le (show i<=(jP k (n+1)).length-1 by omega)with e|e
    .rw[e,hl];exact hlt
    .have:=ih.hs i _ e (by omega)
     rw[hl]at this;exact Tv this hlt
  .rw[if_neg hc]
   have heq:k.getD (n+1) 0=k.getD n 0:=Decidable.byContradiction λh=>hc (.inr h)
   exact⟨ih.h0,ih.hf,by rw[hl];show _=k.getD (n+1) 0;rw[heq],ih.hs⟩
theorem Yj{k:List Rat}(h0:0<k.length)(hs:srtN k k.length=true): ∀i,i<(dst k).length->(((dst k).getD i 0=k.getD 0 0\/(dst k).getD i 0=k.getD (k.length-1) 0)↔(i=0\/i+1=(dst k).length)):=by
 intro i hi;have d:=dsO h0 hs;constructor
 .rintro(h|h)
  .left
   rcases q5D i with e|e
   .exact e
   .have:=d.hs 0 i e hi;rw[d.hf,<-h]at this;exact absurd this (Rat.lt_irrefl)
  .right
   rcases Nat.eq_or_lt_of_le (show i<=(dst k).length-1 by omega)with e|e
   .have:=d.h0;show i+1=_;omega
   .have:=d.hs i ((jP k k.length).length-1) e (by have:i<(jP k k.length).length:=hi;omega);rw[d.hl,<-h]at this;exact absurd this (Rat.lt_irrefl)
 .rintro(h|h)
  .left;rw[h];exact d.hf
  .right;rw[<-d.hl];congr 1;show i=(dst k).length-1;omega
theorem Yk{k:List Rat}(h0:0<k.length)(hs:srtN k k.length=true)(hn: ¬k.getD 0 0=k.getD (k.length-1) 0): ¬(dst k).length<2:=λh=>by
 have d:=dsO h0 hs;have e:(dst k).length-1=0:=by omega
 have hl:=d.hl;have:(jP k k.length).length-1=0:=e;rw[this,d.hf]at hl;exact hn hl
theorem q3n{k:List Rat}{d:Int}(h: ¬(d<1\/6<d))(h2: ¬(k.length:Int)<2*d+2)(h3: ¬40<(k.length:Int) -d-1)(h4:srtN k k.length=true)(h5:k.getD 0 0=k.getD (k.length-1) 0):5=qQ k d:=by
 cases ho:okN k d (dst k).length with
 |false=>exact wK h h2 h3 h4 ho
 |true=>
  refine Xa h h2 h3 h4 ho (Nat.lt_of_not_le λhc=>?_);have dd:=dsO (by omega) h4;have:=dd.hs 0 ((dst k).length-1) (by omega) (by show _<(dst k).length;omega);rw[dd.hf,show(jP k k.length).getD ((dst k).length-1) 0=k.getD (k.length-1) 0 from dd.hl,h5]at this;exact absurd this (Rat.lt_irrefl)
abbrev q1k:FI:=⟨103,[(.sl .rat)],[(.s 1048576 (.n 29))],λ_=>[],λb z=>(λ(k:List Rat)=> .c (.one (.dt (.sl .rat) (.s ((b0 b).len) (.n ((b0 b).mx))) (dst k)))) z⟩
theorem q1l:q1k.OK Tryz.prog:=qI hmix 6 Tryz.func103 rfl rfl (by decide) [(162,.s QJ),(163,.o St)] (λ(k:List Rat) b hx hp=>qg (Xj (Bnds.h1 hx)) rfl) (λ(k:List Rat) hx hp=>by
 have hl0:k.length<=1048576:=hx.1
 refine⟨.pre 999999 (.frz 4 false [2]) (.nil),kcast (by kernel_rfl) (I (?_:k.length=k.length) (I (by rw[Wu];exact Mo k:(dst k).length<=(unqL k).length) ((TY k:(unqL k).take ((dst k).length)=dst k))))⟩<;>omega)
abbrev q1j:Ctr Tryz.prog:=FI.c q1l
abbrev Sy:FI:=⟨55,[(.sl .rat),(.int .i64)],[(.s 1048576 (.n 29)),(.n 1099511627776)],λ_=>[],λb z=>(λ(k:List Rat)(d:Int)=> .c (.one (.dt (.int .i64) (.n 5) (qQ k d)))) z.1 z.2⟩
theorem Sz:Sy.OK Tryz.prog:=qI hmix 89 Tryz.func55 rfl rfl (by decide) [(101,.c YS),(102,.c JO),(103,.c q1j),(104,.c V5)] (λ(k:List Rat)(d:Int) b hx hp=>qg (I0 k d) rfl) (λ(k:List Rat)(d:Int) hx hp=>by
 have hl0:k.length<=1048576:=hx.1.1;have hx1:Int.natAbs d<=1099511627776:=hx.2
 refine⟨.cond (.nil) (.cond (.nil) (.cond (.nil) (.cond (.nil) (.cond (.nil) (.h 8 10 (.i .sub) (.cond (.nil) (.loop [.s 50 (.nat .i64) (.n 1048576)] (λ(i:Nat)=>okN k d i=true/\i<=(dst k).length) (λ(i:Nat)=>(dst k).length-i) (λ(i:Nat)=> .cond (.cond (.nil) (.h 14 10 (.i .sub) (.nil))) (.nil))))))))),kcast (by kernel_rfl) (Sp (d<1) (λh1=>(Lo (by omega):1=qQ k d)) (λh2=>Sp (6<d) (λh3=>(Lo (by omega):1=qQ k d)) (λh4=>Sp (((k.length:Nat):Int)<(2*d)+2) (λh5=>(X7 (by omega) h5:5=qQ k d)) (λh6=>Sp (40<(((k.length:Nat):Int) -d) -1) (λh7=>(X8 (by omega) (by omega) (by omega):2=qQ k d)) (λh8=>I (?_:0<k.length) (Sp ((!(srtN k k.length))=true) (λh9=>(X9 (by omega) (by omega) (by omega) (by simpa using h9):5=qQ k d)) (λh10=>I (?_:0<k.length) (I (?_:1<=k.length) (I (?_:k.length-1<k.length) (Sp (decide ((k.getD 0 0)=(k.getD (k.length-1) 0))=true) (λh11=>(q3n (by omega) (by omega) (by omega) (by simpa using h10) (yd h11):5=qQ k d)) (λh12=>have hk0:=(show 0<k.length by omega);have hsrt:=(show srtN k k.length=true by simpa using h10);have hend:=Yj hk0 hsrt;I (⟨rfl,q64 _⟩:okN k d 0=true/\0<=(dst k).length) (λ(i:Nat)(hb13:HB [.s 50 (.nat .i64) (.n 1048576)] i)(hJ:okN k d i=true/\i<=(dst k).length)=>have hv32:=(show i<=1048576 from hb13);have hJ1:=hJ.2;have hdl:=(show(dst k).length<=k.length from AW k k.length);Sp (i<(dst k).length) (λh14=>I (?_:i<(dst k).length) (I (?_:0<k.length) (Sp (decide (((dst k).getD i 0)=(k.getD 0 0))=true) (λh15=>Sp (((qW k ((dst k).getD i 0) k.length:Nat):Int)≠d+1) (λh16=>(wK (by omega) (by omega) (by omega) hsrt (wi (i:=i) (by have q:=(hend i (by omega)).1 (.inl (yd h15));unfold badM;omega) (by omega)):5=qQ k d)) (λh17=>I (show(i+1)<=1048576 by omega:Bnd (.nat .i64) (.n 1048576) (i+1)) (q4P (⟨vS hJ.1 (by have q:=(hend i (by omega)).1 (.inl (yd h15));unfold badM;omega),by omega⟩:okN k d (i+1)=true/\(i+1)<=(dst k).length) (?_:(dst k).length-(i+1)<(dst k).length-i)))) (λh18=>I (?_:1<=k.length) (I (?_:k.length-1<k.length) (Sp (decide (((dst k).getD i 0)=(k.getD (k.length-1) 0))=true) (λh19=>Sp (((qW k ((dst k).getD i 0) k.length:Nat):Int)≠d+1) (λh20=>(wK (by omega) (by omega) (by omega) hsrt (wi (i:=i) (by have q:=(hend i (by omega)).1 (.inr (yd h19));unfold badM;omega) (by omega)):5=qQ k d)) (λh21=>Sp ((!(decide (((dst k).getD i 0)=(k.getD (k.length-1) 0))))=true) (λh22=>Sp (d<((qW k ((dst k).getD i 0) k.length:Nat):Int)) (λh23=>(wK (by omega) (by omega) (by omega) hsrt (wi (i:=i) (absurd (yd h19) (nd h22)) (by omega)):5=qQ k d)) (λh24=>I (show(i+1)<=1048576 by omega:Bnd (.nat .i64) (.n 1048576) (i+1)) (q4P (⟨vS hJ.1 (absurd (yd h19) (nd h22)),by omega⟩:okN k d (i+1)=true/\(i+1)<=(dst k).length) (?_:(dst k).length-(i+1)<(dst k).length-i)))) (λh25=>I (show(i+1)<=1048576 by omega:Bnd (.nat .i64) (.n 1048576) (i+1)) (q4P (⟨vS hJ.1 (by have q:=(hend i (by omega)).1 (.inr (yd h19));unfold badM;omega),by omega⟩:okN k d (i+1)=true/\(i+1)<=(dst k).length) (?_:(dst k).length-(i+1)<(dst k).length-i))))) (λh26=>Sp ((!(decide (((dst k).getD i 0)=(k.getD (k.length-1) 0))))=true) (λh27=>Sp (d<((qW k ((dst k).getD i 0) k.length:Nat):Int)) (λh28=>(wK (by omega) (by omega) (by omega) hsrt (wi (i:=i) (by have q:=mt (hend i (by omega)).2 (not_or.2 ⟨(yd' h18),(yd' h26)⟩);unfold badM;omega) (by omega)):5=qQ k d)) (λh29=>I (show(i+1)<=1048576 by omega:Bnd (.nat .i64) (.n 1048576) (i+1)) (q4P (⟨vS hJ.1 (by have q:=mt (hend i (by omega)).2 (not_or.2 ⟨(yd' h18),(yd' h26)⟩);unfold badM;omega),by omega⟩:okN k d (i+1)=true/\(i+1)<=(dst k).length) (?_:(dst k).length-(i+1)<(dst k).length-i)))) (λh30=>I (show(i+1)<=1048576 by omega:Bnd (.nat .i64) (.n 1048576) (i+1)) (q4P (⟨vS hJ.1 (absurd (nd' h30) (yd' h26)),by omega⟩:okN k d (i+1)=true/\(i+1)<=(dst k).length) (?_:(dst k).length-(i+1)<(dst k).length-i)))))))))) (λh31=>(Xb (by omega) (by omega) (by omega) hsrt (by rw[show(dst k).length=i by omega];exact hJ.1) (Yk hk0 hsrt (yd' h12)):0=qQ k d))))))))))))))⟩<;>omega)
abbrev Sw:Ctr Tryz.prog:=FI.c Sz
def jz(s:qL)(f:Bool):Pole:=(if f=true then((A4 s).1,(A4 s).2.1,0)else A4 s,((1+Int.tmod (qa (vK s) 3) 3:Int):Rat))
def AK(s:qL):qL:=q9 (vK s)
theorem Pr(s:qL)(f:Bool):Bnd zZ (zq 5) (jz s f):=by
 refine⟨?_,?_⟩
 .have:=Nh s
  show Bnd tV3 (bV3 5) (if f=true then _ else _);split
  .exact⟨this.1,this.2.1,Ba _⟩
  .exact this
 .have h:(1+Int.tmod (qa (vK s) 3) 3).natAbs<=4:=by
   have:=Int.natAbs_tmod (qa (vK s) 3) 3;have:(Int.tmod (qa (vK s) 3) 3).natAbs=(qa (vK s) 3).natAbs%3:=this;omega
  exact jx (DB h) (by decide)
theorem Pq{s:qL}{b:Bd}(h:Bnd jM b s):Bnd jM (.p b.l (.n (max b.r.nb b.l.len))) (AK s):=vr (Ng h)
abbrev Ye:FB:=⟨20,(.pr (.sl (.int .i64)) (.nat .i64)),(.p (.s 1048576 (.n 9223372036854775808)) (.n 1048576)),[.bool],[.u],λs z=>[],λtb b s z=>(λ(f:Bool)=> .c (.agg [.dt zZ (zq 5) (jz s f)])) z,λs z=>AK s,λtb b=> .p tb.l (.n (max tb.r.nb tb.l.len))⟩
theorem Yf:Ye.OK Tryz.prog:=mkB' hmix 18 Tryz.func20 rfl rfl (by decide) [(9,.b C4),(22,.c J7),(42,.b UD)] (λ_=>rfl) (λ_ _=>rfl) (λ_ _ _ _=>rfl) (λ(s:List Int×Nat)(f:Bool) tb b hs hx hp=>⟨wz (Pr s f),Pq hs⟩) (λ(s:List Int×Nat)(f:Bool) hs hx hp=>by
 refine⟨.nil,kcast (by kernel_rfl) (Sp (f=true) (λh1=>I (?_:(0:Int)<3) (I (?_:(3:Int)≠0) (q4P (rfl:q9 (vK s)=AK s) ((by unfold jz;rw[if_pos (show f=true by assumption)]:(((A4 s).1,((A4 s).2).1,0),((1+(Int.tmod (qa (vK s) 3) 3):Int):Rat))=jz s f))))) (λh2=>I (?_:(0:Int)<3) (I (?_:(3:Int)≠0) (q4P (rfl:q9 (vK s)=AK s) ((by unfold jz;rw[if_neg (show¬f=true by assumption)]:(A4 s,((1+(Int.tmod (qa (vK s) 3) 3):Int):Rat))=jz s f))))))⟩<;>omega)
abbrev Yd:CtrB Tryz.prog:=FB.c Yf
section
theorem Qm{x y:Rat}(h:y≠0):x/y*y=x:=Rat.div_mul_cancel h
def HZ(m:Nat)(t:Rat):Prop:= ∃z:Int,t*2=(z:Rat)/\z.natAbs<=m
theorem HZ.le{m k:Nat}{t:Rat}(h:HZ m t)(e:m<=k):HZ k t:=by obtain⟨z,a,b⟩:=h;exact⟨z,a,by omega⟩
theorem HZ.bnd{t:Rat}(h:HZ 40 t):Bnd .rat (.n 6) t:=by
 obtain⟨z,a,b⟩:=h;have e2:((2:Int):Rat)=2:=rfl
 have e:t=(z:Rat)/((2:Int):Rat):=by
  have:=Qm (x:=(z:Rat)) (y:=((2:Int):Rat)) (by rw[e2];decide);rw[e2]at this⊢;generalize(z:Rat)/2=u at*;grind
 rw[e];exact jx (Am (n:=z) (d:=2) (b:=40) (c:=2) b (by decide)) (by decide)
def addT(t:Rat)(s:qL):Rat:=t+((1+qa s 3:Int):Rat)/((1+qa (q9 s) 2:Int):Rat)
theorem HZ.addT{m:Nat}{t:Rat}(h:HZ m t)(s:qL):HZ (m+6) (addT t s):=by
 obtain⟨z,a,b⟩:=h;have h1:=va s (m:=3) (by omega);have h2:=va (q9 s) (m:=2) (by omega);unfold Sx.addT;have c:1+qa (q9 s) 2=1\/1+qa (q9 s) 2=2:=by omega
 generalize qa s 3=u at*;generalize 1+qa (q9 s) 2=e at*
 have e1:((1:Int):Rat)=1:=rfl;have e2:((2:Int):Rat)=2:=rfl;rcases c with rfl|rfl
 .refine⟨z+2*(1+u),?_,by omega⟩
  have:=Qm (x:=((1+u:Int):Rat)) (y:=((1:Int):Rat)) (by rw[e1];decide);rw[e1]at this⊢;generalize((1+u:Int):Rat)/1=q at*;rw[Rat.intCast_add,Rat.intCast_mul,<-a,e2];grind
 .refine⟨z+(1+u),?_,by omega⟩
  have:=Qm (x:=((1+u:Int):Rat)) (y:=((2:Int):Rat)) (by rw[e2];decide);rw[e2]at this⊢;generalize((1+u:Int):Rat)/2=q at*;rw[Rat.intCast_add,<-a];grind
theorem HZ.one{m:Nat}{t:Rat}(h:HZ m t):HZ (m+2) (t+((1:Int):Rat)):=by
 obtain⟨z,a,b⟩:=h;refine⟨z+2,?_,by omega⟩;have e1:((1:Int):Rat)=1:=rfl;have e2:((2:Int):Rat)=2:=rfl;rw[Rat.intCast_add,<-a,e1,e2];grind
abbrev KnT:=List Rat×Rat×qL
def knS(d:Int)(x:KnT):KnT:=
 if(x.1.length:Int)=d+1 then(x.1++[addT x.2.1 x.2.2],addT x.2.1 x.2.2,q9 (q9 x.2.2))
 else if 0<qa x.2.2 3\/x.2.1=x.1.getD ((x.1.length:Int) -d).toNat 0 then(x.1++[addT x.2.1 (q9 x.2.2)],addT x.2.1 (q9 x.2.2),q9 (q9 (q9 x.2.2)))
 else(x.1++[x.2.1],x.2.1,q9 x.2.2)
def knN(d:Int):Nat->KnT->KnT
 |0,x=>x
 |n+1,x=>knN d n (knS d x)
def kn0(d:Int)(s:qL):KnT:=(List.replicate (d+1).toNat ((qa s 4-2:Int):Rat),((qa s 4-2:Int):Rat),q9 (q9 s))
def knR(d inner:Int)(s:qL):KnT:=knN d (qa (q9 s) (inner+1)).toNat (kn0 d s)
def jg(d inner:Int)(s:qL):List Rat:=(knR d inner s).1++List.replicate (d+1).toNat ((knR d inner s).2.1+((1:Int):Rat))
def jE(d inner:Int)(s:qL):qL:=(knR d inner s).2.2
structure KnI (m n:Nat) (x:KnT):Prop where
 l:x.1.length<=n
 t:HZ m x.2.1
 k: ∀y∈x.1,HZ m y
theorem KnI.step{m n:Nat}{x:KnT}(h:KnI m n x)(d:Int):KnI (m+6) (n+1) (knS d x):=by
 obtain⟨hl,ht,hk⟩:=h
 have app: ∀t:Rat,HZ (m+6) t-> ∀u,KnI (m+6) (n+1) (x.1++[t],t,u):=λt q u=>by
  refine⟨by simp only[q5b,q5c,q5f];omega,q,λy hy=>?_⟩;rcases q5i.1 hy with hy|hy
  .exact(hk y hy).le (by omega)
  .rw[q5p.1 hy];exact q
 unfold knS;split
 .exact app _ (ht.addT _) _
 .split
  .exact app _ (ht.addT _) _
  .exact app _ (ht.le (by omega)) _
theorem KnI.all{d:Int}: ∀{k m n:Nat}{x:KnT},KnI m n x->KnI (m+6*k) (n+k) (knN d k x)
 |0,m,n,x,h=>h
 |k+1,m,n,x,h=>by
  have:=(h.step d).all (d:=d) (k:=k);rw[show m+6*(k+1)=m+6+6*k by omega,show n+(k+1)=n+1+k by omega];exact this
theorem KnI.le{m n m' n':Nat}{x:KnT}(h:KnI m n x)(a:m<=m')(b:n<=n'):KnI m' n' x:=⟨q5I h.l b,h.t.le a,λy hy=>(h.k y hy).le a⟩
section
variable {d:Int} {k:List Rat} {t:Rat} {u:qL}
theorem q3G(h:(k.length:Int)=d+1):knS d (k,t,u)=(k++[addT t u],addT t u,q9 (q9 u)):=if_pos h
theorem Xq(h: ¬(k.length:Int)=d+1)(c:0<qa u 3\/t=k.getD ((k.length:Int) -d).toNat 0):knS d (k,t,u)=(k++[addT t (q9 u)],addT t (q9 u),q9 (q9 (q9 u))):=(if_neg h).trans (if_pos c)
theorem q3H(h: ¬(k.length:Int)=d+1)(c: ¬0<qa u 3)(c2: ¬t=k.getD ((k.length:Int) -d).toNat 0):knS d (k,t,u)=(k++[t],t,q9 u):=(if_neg h).trans (if_neg (not_or.2 ⟨c,c2⟩))
end
theorem P5(d:Int)(x:KnT):(knS d x).1.length=x.1.length+1:=by
 unfold knS;(repeat' split)<;>simp
theorem Gc{d m:Int}{x y Z:KnT}(hm:0<m)(hJ:knN d m.toNat x=Z/\0<=m/\m<=4/\KnI (4+6*(4-m).toNat) (10-m.toNat) x/\d+1<=(x.1.length:Int))(e:knS d x=y):
  knN d (m-1).toNat y=Z/\0<=m-1/\m-1<=4/\KnI (4+6*(4-(m-1)).toNat) (10-(m-1).toNat) y/\d+1<=(y.1.length:Int):=by
 obtain⟨h1,h2,h3,h4,h5⟩:=hJ;rw[show m.toNat=(m-1).toNat+1 by omega,knN,e]at h1;have hl:=P5 d x;rw[e]at hl;exact⟨h1,by omega,by omega,e▸(h4.step d).le (by omega) (by omega),by omega⟩
theorem Xo(d:Int)(s:qL):KnI 4 (d+1).toNat (kn0 d s):=by
 have h1:=va s (m:=4) (by omega)
 have hz:HZ 4 ((qa s 4-2:Int):Rat):=by
  refine⟨2*(qa s 4-2),?_,by omega⟩;rw[Rat.intCast_mul];have e2:((2:Int):Rat)=2:=rfl
  rw[e2];grind
 refine⟨by simp[kn0],hz,λy hy=>?_⟩;rw[List.eq_of_mem_replicate hy];exact hz
theorem q3F{d inner:Int}(s:qL)(h0:0<=inner)(h4:inner<=4):KnI 28 ((d+1).toNat+4) (knR d inner s):=by
 have h:=va (q9 s) (m:=inner+1) (by omega);have:=(Xo d s).all (d:=d) (k:=(qa (q9 s) (inner+1)).toNat);refine⟨q5I this.l (by omega),this.t.le (by omega),λy hy=>(this.k y hy).le (by omega)⟩
theorem Hf{d inner:Int}(s:qL)(hd:d<=5)(h0:0<=inner)(h4:inner<=4):Bnd (.sl .rat) (.s 16 (.n 6)) (jg d inner s):=by
 have h:=q3F (d:=d) s h0 h4;unfold jg;refine⟨by have:=h.l;simp only[q5b,List.length_replicate];omega,λy hy=>?_⟩;rcases q5i.1 hy with hy|hy
 .exact((h.k y hy).le (by decide)).bnd
 .rw[List.eq_of_mem_replicate hy]
  obtain⟨z,a,b⟩:=h.t;refine HZ.bnd ⟨z+2,?_,by omega⟩;have e1:((1:Int):Rat)=1:=rfl;have e2:((2:Int):Rat)=2:=rfl;rw[Rat.intCast_add,<-a,e1,e2];grind
theorem q3I{d:Int}{x:KnT}{b:Bd}(h:Bnd jM (.p b.l (.n (max b.r.nb b.l.len))) x.2.2):Bnd jM (.p b.l (.n (max b.r.nb b.l.len))) (knS d x).2.2:=by
 unfold knS;split
 .exact vr (b:=b) (vr (b:=b) h)
 .split
  .exact vr (b:=b) (vr (b:=b) (vr (b:=b) h))
  .exact vr (b:=b) h
theorem Xp{d:Int}{b:Bd}: ∀{n:Nat}{x:KnT},Bnd jM (.p b.l (.n (max b.r.nb b.l.len))) x.2.2->Bnd jM (.p b.l (.n (max b.r.nb b.l.len))) (knN d n x).2.2
 |0,x,h=>h
 |n+1,x,h=>Xp (x:=knS d x) (q3I (d:=d) h)
theorem He{d inner:Int}{s:qL}{b:Bd}(h:Bnd jM b s):Bnd jM (.p b.l (.n (max b.r.nb b.l.len))) (jE d inner s):=
 Xp (x:=kn0 d s) (vr (b:=b) (B1 (b:=b) h))
theorem I9{x:qL}{b:Bd}(h:Bnd jM (.p (Bd.p b.l (.n (max b.r.nb b.l.len))).l (.n (max (Bd.p b.l (.n (max b.r.nb b.l.len))).r.nb (Bd.p b.l (.n (max b.r.nb b.l.len))).l.len))) x):Bnd jM (.p b.l (.n (max b.r.nb b.l.len))) x:=by
 simpa[Bd.l,Bd.r,Bd.nb,Nat.max_assoc]using h
theorem VU{s:qL}{b:Bd}(h:Bnd jM (.p b.l (.n (max b.r.nb b.l.len))) s):Bnd jM (.p b.l (.n (max b.r.nb b.l.len))) (AK s):=I9 (Pq h)
theorem Vb{d inner:Int}{s:qL}{k:List Rat}{i:Nat}(hI:k=List.replicate i ((qa s 4-2:Int):Rat)/\(i:Int)<=d+1)(hi: ¬(i:Int)<=d)(hd:d<=5)(h0:0<=inner)(h4:inner<=4):
  knN d (qa (q9 s) (inner+1)).toNat (k,((qa s 4-2:Int):Rat),q9 (q9 s))=knR d inner s/\0<=qa (q9 s) (inner+1)/\qa (q9 s) (inner+1)<=4/\KnI (4+6*(4-qa (q9 s) (inner+1)).toNat) (10-(qa (q9 s) (inner+1)).toNat) (k,((qa s 4-2:Int):Rat),q9 (q9 s))/\d+1<=(k.length:Int):=by
 have h:=va (q9 s) (m:=inner+1) (by omega);have e:(k,((qa s 4-2:Int):Rat),q9 (q9 s))=kn0 d s:=by unfold kn0;rw[hI.1,show(d+1).toNat=i by omega]
 have hl:k.length=i:=by rw[hI.1,List.length_replicate]
 rw[e];exact⟨rfl,h.1,by omega,(Xo d s).le (by omega) (by omega),by omega⟩
theorem q1p{d inner m:Int}{s u:qL}{k:List Rat}{t:Rat}{P:Prop}(hJ:knN d m.toNat (k,t,u)=knR d inner s/\P)(hm: ¬0<m):(k,t,u)=knR d inner s:=by
 have:=hJ.1;rw[show m.toNat=0 by omega]at this;exact this
theorem SD{d inner m:Int}{s u:qL}{k k3:List Rat}{t:Rat}{j:Nat}{P:Prop}(hJ:knN d m.toNat (k,t,u)=knR d inner s/\P)(hm: ¬0<m)(hL:k3=k++List.replicate j (t+((1:Int):Rat))/\(j:Int)<=d+1)(hj: ¬(j:Int)<=d):
  u=jE d inner s/\k3=jg d inner s:=by
 have e:=q1p hJ hm;unfold jE jg;rw[<-e,hL.1,show(d+1).toNat=j by omega];exact⟨rfl,rfl⟩
end
section
section
variable {P:Program}
theorem XY{n:Nat}{Ks:List Nat}{st:WSt}(hk:st.Ok){k:Nat}{B B':WB}(hL:look st.L k=some B)(hi:BImp k B.exp B'.exp)(hB:B'.ok):
  EntW n Ks st ⟨st.rm,st.m,st.rL,(k,B')::st.L⟩/\(⟨st.rm,st.m,st.rL,(k,B')::st.L⟩:WSt).Ok:=by
 have hlk: ∀q b',qe ⟨st.rm,st.m,st.rL,(k,B')::st.L⟩ q=some b'->(q=k/\b'=B')\/(q≠k/\qe st q=some b'):=by
  intro q b' h;unfold qe at h;simp only[look]at h;by_cases e:k=q
  .subst e;simp at h;exact .inl ⟨rfl,h.symm⟩
  .rw[j5 e]at h;exact .inr ⟨λe'=>e e'.symm,h⟩
 have hlB:qe st k=some B:=by unfold qe;rw[hL]
 refine⟨H4 (λt v' h=>⟨v',h,λ_ _ _ h=>h⟩) λq b' h=>?_,λt v h=>hk.m t v h,λq b' h=>?_,hk.dm,λq hq=>?_⟩
 .rcases hlk q b' h with⟨rfl,rfl⟩|⟨_,h⟩
  .exact⟨B,hlB,hi⟩
  .exact⟨b',h,λ_ _ _ h=>h⟩
 .rcases hlk q b' h with⟨rfl,rfl⟩|⟨_,h⟩
  .exact hB
  .exact hk.l q b' h
 .have h0:=hk.dl q hq
  have hne:k≠q:=λe=>by subst e;rw[h0]at hL;cases hL
  show look ((k,B')::st.L) q=none;simp only[look,j5 hne,cond_false];exact h0
theorem SO{α:Type}{l:List (Nat×α)}{k q:Nat}(h:k≠q):look (l.filter λp=>!Nat.beq p.1 k) q=look l q:=by
 induction l with
 |nil=>rfl
 |cons p r ih=>
  obtain⟨a,v⟩:=p;simp only[List.filter_cons];by_cases e:a=k
  .subst e
   rw[if_neg (by simp),ih];simp only[look,j5 h,cond_false]
  .rw[if_pos (by rw[j5 e];rfl)]
   simp only[look,ih]
theorem Step.same{w:World}{H:Heap}{β:Bm}(k:Nat)(h:Heap.On H w):Step w H β [k] [] [] w H β:=
 ⟨rfl,rfl,rfl,q5H _,λ_ _ _=>rfl,Heap.Le.refl _,λb hb=> .inl hb,h,λ_ _=>rfl,λk hk=>by simp at hk,λk hk=>by simp at hk⟩
end
end
section
section
variable {P:Program}
def ipV(k:Nat)(t:Ty)(b:Bd)(x:t.den):WV->Option WV
 | .c (.one (.loc k' off))=>bif Nat.beq k' k&&Nat.ble off t.w then some (.c (.one (.ip t b x off)))else none
 |_=>none
theorem V1{k:Nat}{t:Ty}{b:Bd}{x:t.den}{v v':WV}(h:ipV k t b x v=some v')(hb:Bnd t b x):RelV k (cellsC t x) none v.exp v'.exp/\v'.ok:=by
 unfold ipV at h;split at h
 .rename_i k' off
  cases hc:Nat.beq k' k&&Nat.ble off t.w with
  |false=>rw[hc]at h;cases h
  |true=>
   rw[hc]at h;simp only[cond_true,q68]at h;subst h
   simp only[q4R]at hc;have e:=q5C hc.1;subst e
   have hle:off<=t.w:=q5E hc.2;refine⟨TC (q1P (m:=t.w-off) (by rw[jt];omega) ?_),hb,rfl⟩;exact q5u (by rw[q5d,jt];omega)
 .cases h
def G5(k:Nat)(t:Ty)(b:Bd)(x:t.den)(ts:List Nat):List (Nat×WV)->Option (List (Nat×WV))
 |[]=>some []
 |p::r=>match G5 k t b x ts r with
  |none=>none
  |some r'=>bif jD k p.2.ids then(bif jD p.1 ts then(match ipV k t b x p.2 with|some v=>some ((p.1,v)::r')|none=>none)else some r')else some (p::r')
theorem Ig{k:Nat}{t:Ty}{b:Bd}{x:t.den}{ts:List Nat}(hb:Bnd t b x): ∀{m m':List (Nat×WV)},G5 k t b x ts m=some m'->(∀p∈m,p.2.ok)-> ∀q∈m',∃p∈m,p.1=q.1/\RelV k (cellsC t x) none p.2.exp q.2.exp/\q.2.ok
 |[],m',h,_,q,hq=>by simp[G5]at h;subst h;simp at hq
 |p::r,m',h,hok,q,hq=>by
  simp only[G5]at h
  cases h1:G5 k t b x ts r with
  |none=>rw[h1]at h;cases h
  |some r'=>
   rw[h1]at h;simp only at h
   have ih:=Ig hb h1 (λp hp=>hok p (q5k _ hp))
   have up: ∀q∈r',∃p'∈p::r,p'.1=q.1/\RelV k (cellsC t x) none p'.2.exp q.2.exp/\q.2.ok:=λq hq=>by
    obtain⟨p',a,c⟩:=ih q hq;exact⟨p',q5k _ a,c⟩
   cases h2:jD k p.2.ids with
   |false=>
    rw[h2]at h;simp at h;subst h
    rcases q5j.1 hq with rfl|hq
    .exact⟨q,q5l,rfl,Gr,hok q q5l⟩
    .exact up q hq
   |true=>
    rw[h2]at h;simp only[cond_true]at h
    cases h3:jD p.1 ts with
    |false=>rw[h3]at h;simp at h;subst h;exact up q hq
    |true=>
     rw[h3]at h;simp only[cond_true]at h
     split at h
     .rename_i v hv
      simp only[q68]at h;subst h
      rcases q5j.1 hq with rfl|hq
      .obtain⟨q1,q2⟩:=V1 hv hb;exact⟨p,q5l,rfl,q1,q2⟩
      .exact up q hq
     .cases h
def Xl(k:Nat)(t:Ty)(b:Bd)(ts:List Nat)(Ks:List Nat)(st:WSt):Option (List Prop×WSt):=
 bif G4 Ks st k&&st.L.all (λp=>Nat.beq p.1 k||!jD k p.2.ids)then(match look st.L k with
  |some (.rig l)=>match reify t l with
   |some (b',x,[])=>bif b'.le b then(match G5 k t b x ts st.m with
    |some m'=>some ([],⟨st.rm,m',st.rL,st.L.filter λp=>!Nat.beq p.1 k⟩)
    |none=>none)else none
   |_=>none
  |_=>none)else none
theorem mem_filt{α:Type}{l:List (Nat×α)}{k:Nat}{q:Nat×α}(h:q∈l.filter λp=>!Nat.beq p.1 k):q∈l/\q.1≠k:=by
 obtain⟨a,c⟩:=q5m.1 h;exact⟨a,λe=>by subst e;simp at c⟩
def frzP(k:Nat)(t:Ty)(b:Bd)(ts:List Nat):PExt:=⟨Xl k t b ts,by
 intro n Ks st st' vc hk h hvc;unfold Xl at h
 cases hc:G4 Ks st k&&st.L.all (λp=>Nat.beq p.1 k||!jD k p.2.ids)with
 |false=>rw[hc]at h;cases h
 |true=>
  rw[hc]at h;simp only[cond_true]at h
  rw[q4R]at hc;obtain⟨hc,hc6⟩:=hc;unfold G4 at hc;simp only[q4R,List.all_eq_true]at hc hc6;obtain⟨⟨⟨⟨⟨c0,c1⟩,c2⟩,c3⟩,c4⟩,c5⟩:=hc;split at h
  .rename_i l hl
   split at h
   .rename_i b' x hr
    cases hb:b'.le b with
    |false=>rw[hb]at h;cases h
    |true=>
     rw[hb]at h;simp only[cond_true]at h
     split at h
     .rename_i m' hm
      simp only[q68,q69]at h;obtain⟨rfl,rfl⟩:=h
      have hlk:qe st k=some (.rig l):=by unfold qe;rw[hl]
      have hlok:WAs.ok l:=hk.l k _ hlk;obtain⟨m0,e1,i1,o1⟩:=vH hr;have e1:WAs.exp l=m0:=by rw[e1];simp[WAs.exp]
      subst e1;have hbn:Bnd t b x:=Bnd.mono hb (o1 hlok).1;have hB1:(WB.rig [.dt t b x]).ok:=jT hbn
      obtain⟨ent1,ok1⟩:=XY (n:=n) (Ks:=Ks) hk hl (B:= .rig l) (B':= .rig [.dt t b x]) (by
       show BImp k (.rigid (WAs.exp l)) (.rigid (WAs.exp [.dt t b x]))
       rw[zb];exact zr i1) hB1
      have hmok: ∀p∈st.m,p.2.ok:=λp hp=>hk.m p.1 p.2 (by unfold qw;rw[z6 c1 hp])
      have sm:=Ig hbn hm hmok
      have hM: ∀t' v',qw ⟨st.rm,m',st.rL,st.L.filter λp=>!Nat.beq p.1 k⟩ t'=some v'-> ∃v,qw st t'=some v/\RelV k (cellsC t x) none v.exp v'.exp/\v'.ok:=by
       intro t' v' hv;unfold qw at hv;simp only at hv
       cases hl:look m' t' with
       |some x=>
        rw[hl]at hv;simp at hv;subst hv
        obtain⟨p,hp,e,h1,h2⟩:=sm _ (qU hl);have e':p.1=t':=e;exact⟨p.2,by unfold qw;rw[<-e',z6 c1 hp],h1,h2⟩
       |none=>
        rw[hl]at hv;simp only at hv
        have h3:qw st t'=some v':=by unfold qw;rw[hk.dm t' (by rw[hv];simp)];exact hv
        exact⟨v',h3,Gr,hk.m t' v' h3⟩
      have hB: ∀q b',qe ⟨st.rm,m',st.rL,st.L.filter λp=>!Nat.beq p.1 k⟩ q=some b'->q≠k/\qe st q=some b'/\b'.ok:=by
       intro q b' hv;unfold qe at hv;simp only at hv
       cases hl:look (st.L.filter λp=>!Nat.beq p.1 k) q with
       |some y=>
        rw[hl]at hv;simp at hv;subst hv
        have hq:q≠k:=(mem_filt (qU hl)).2;rw[SO (λe=>hq e.symm)]at hl;have h3:qe st q=some y:=by unfold qe;rw[hl]
        exact⟨hq,h3,hk.l q y h3⟩
       |none=>
        rw[hl]at hv;simp only at hv
        have h3:qe st q=some b':=by unfold qe;rw[hk.dl q (by rw[hv];simp)];exact hv
        have h4:=c5 _ (qU hv);simp only[q4R,q4T]at h4;exact⟨λe=>by subst e;simp at h4,h3,hk.l q b' h3⟩
      have e1L: ∀q,q≠k->qe ⟨st.rm,st.m,st.rL,(k,WB.rig [.dt t b x])::st.L⟩ q=qe st q:=by
       intro q hq;unfold qe;simp only[look,j5 (λe=>hq e.symm),cond_false]
      refine⟨Ent.trans ent1 ?_,⟨λt' v' h=>(hM t' v' h).choose_spec.2.2,λq b' h=>(hB q b' h).2.2,?_,?_⟩,rfl,rfl⟩
      .refine Mr (k:=k) (cells:=cellsC t x) (g:=none) c0 (λk0 hk0=>?_) (.inl ⟨rfl,?_⟩) ?_ ?_
       .rw[qv]
        by_cases e:k0=k
        .subst e;unfold qe;simp[look]
        .rw[e1L k0 e]
         obtain⟨x,hx⟩:=Option.isSome_iff_exists.1 (c3 k0 hk0);rw[hx];simp
       .rw[qv]
        have:qe ⟨st.rm,st.m,st.rL,(k,WB.rig [.dt t b x])::st.L⟩ k=some (.rig [.dt t b x]):=by unfold qe;simp[look]
        rw[this];simp only[q67,WB.exp,zb];rfl
       .intro t' av' hv
        rw[jH]at hv
        cases hl:qw ⟨st.rm,m',st.rL,st.L.filter λp=>!Nat.beq p.1 k⟩ t' with
        |none=>rw[hl]at hv;cases hv
        |some v'=>
         rw[hl]at hv;simp at hv;subst hv
         obtain⟨v,h1,h2,_⟩:=hM t' v' hl;exact⟨v.exp,by rw[jH];show(qw st t').map _=_;rw[h1];rfl,h2⟩
       .intro q b' hv
        rw[qv]at hv
        cases hl:qe ⟨st.rm,m',st.rL,st.L.filter λp=>!Nat.beq p.1 k⟩ q with
        |none=>rw[hl]at hv;cases hv
        |some b1=>
         rw[hl]at hv;simp at hv;subst hv
         obtain⟨h0,h1,_⟩:=hB q b1 hl;exact⟨h0,b1.exp,by rw[qv,e1L q h0,h1];rfl,JM⟩
      .intro t' ht'
       show look m' t'=none;refine ju.2 λq hq e=>?_
       obtain⟨p,hp,e',_⟩:=sm q hq;exact absurd e (λe=>(ju.1 (hk.dm t' ht')) p hp (e'.trans e))
      .intro q hq
       show look (st.L.filter λp=>!Nat.beq p.1 k) q=none;exact ju.2 λq' hq' e=>(ju.1 (hk.dl q hq)) q' (mem_filt hq').1 e
     .cases h
   .cases h
  .cases h⟩
end
end
section
section
variable {P:Program}
theorem VK{l:List Atom}(h:l.length=1): ∃u,l=[u]:=by
 match l,h with
 |[u],_=>exact⟨u,rfl⟩
end
end
end Go.Proofs.YtknbiadjbdemdaaGreat.Sx
