/-
Own laws, part 8. No condition.
-/
import Derived.Test.YtknbiadjbdemdaaGreatS7
import Derived.Test.YtknbiadjbdemdaaGreatProg
import Derived.KernelRfl
namespace Go.Proofs.YtknbiadjbdemdaaGreat.Sx.Kx
open Go
set_option linter.unusedVariables false
set_option linter.unusedSimpArgs false
noncomputable section
section
variable {v2:V} {s2:S}
theorem jy{a b:Bool}:jf a b=true↔a=true/\b=true:=by cases a<;>cases b<;>simp[jf]
theorem P2(a b:IntKind):keqF a b=keq a b:=by cases a<;>cases b<;>rfl
theorem P1(k:IntKind):kLim k=lim k:=by cases k<;>rfl
theorem JI(a:Bool):notB a=!a:=by cases a<;>rfl
theorem IO{x:V}{f:IntKind->Nat->RO}{z:V->RO}(h:qNN x f z= .ok v2 s2):(∃k n,x= .nn k n/\f k n= .ok v2 s2)\/((∀k n,x≠ .nn k n)/\z x= .ok v2 s2):=by
 cases x<;>first|exact .inl ⟨_,_,rfl,h⟩|exact .inr ⟨by simp,h⟩
theorem XA{x:V}{f:Nat->RO}(h:qN x f= .ok v2 s2): ∃k n,x= .nn k n/\f n= .ok v2 s2:=by
 cases x<;>first|exact⟨_,_,rfl,h⟩|cases h
theorem Gk{x:V}{f:Key->Nat->RO}{g:Key->Nat->Nat->Nat->RO}(h:qP x f g= .ok v2 s2):(∃k o,x= .pp k o/\f k o= .ok v2 s2)\/(∃k i o w,x= .ee k i o w/\g k i o w= .ok v2 s2):=by
 cases x<;>first|exact .inl ⟨_,_,rfl,h⟩|exact .inr ⟨_,_,_,_,rfl,h⟩|cases h
theorem XB{x:V}{f:Key->Nat->Nat->Nat->Nat->RO}{g:Key->Nat->Nat->Nat->RO}{z:V->RO}(h:qS x f g z= .ok v2 s2):
  (∃k lo n c w,x= .sl k lo n c w/\f k lo n c w= .ok v2 s2)\/(∃k lo n w,x= .gs k lo n w/\g k lo n w= .ok v2 s2)\/z x= .ok v2 s2:=by
 cases x<;>first|exact .inl ⟨_,_,_,_,_,rfl,h⟩|exact .inr (.inl ⟨_,_,_,_,rfl,h⟩)|exact .inr (.inr h)
theorem R0{x:V}{f:Bool->RO}(h:qB x f= .ok v2 s2): ∃b,x= .bb b/\f b= .ok v2 s2:=by cases x<;>first|exact⟨_,rfl,h⟩|cases h
theorem q4d{x:V}{f:Bool->RO}{z:RO}(h:qG x f z= .ok v2 s2):(∃b,x= .bb b/\f b= .ok v2 s2)\/(x= .tu []/\z= .ok v2 s2):=by
 cases x with
 |bb b=>exact .inl ⟨b,rfl,h⟩
 |tu l=>cases l with
  |nil=>exact .inr ⟨rfl,h⟩
  |cons _ _=>cases h
 |_=>cases h
theorem Xz{x:V}{z:RO}(h:qD x z= .ok v2 s2):x≠ .und/\z= .ok v2 s2:=by cases x<;>first|exact⟨by simp,h⟩|cases h
theorem wS{x:V}{f:V->RO}(h:qF x f= .ok v2 s2):x≠ .und/\f x= .ok v2 s2:=by cases x<;>first|exact⟨by simp,h⟩|cases h
theorem R3{x:V}{f:V->RO}(h:qK x f= .ok v2 s2):isC x=true/\f x= .ok v2 s2:=by cases x<;>first|exact⟨rfl,h⟩|cases h
theorem q4e{x:V}{f:List V->RO}(h:qT x f= .ok v2 s2): ∃l,x= .tu l/\f l= .ok v2 s2:=by cases x<;>first|exact⟨_,rfl,h⟩|cases h
theorem zm{b:Bool}{t:List Nat}{z:RO}(h: @Bool.rec (λ_=>RO) (.no t) z b= .ok v2 s2):b=true/\z= .ok v2 s2:=by cases b<;>first|exact⟨rfl,h⟩|cases h
theorem M3{b:Bool}{t:List Nat}{z:RO}(h: @Bool.rec (λ_=>RO) z (.no t) b= .ok v2 s2):b=false/\z= .ok v2 s2:=by cases b<;>first|exact⟨rfl,h⟩|cases h
theorem q4f{x:V}{s:Nat}{y z:RO}(h:qX x s y z= .ok v2 s2):isC x=true/\x.size=s/\((x.un=true/\y= .ok v2 s2)\/z= .ok v2 s2):=by
 cases x with
 |und=>cases h
 |tu l=>cases h
 |ag w l=>obtain⟨h1,h2⟩:=zm h;exact⟨rfl,q5C h1,.inr h2⟩
 |_=>obtain⟨h1,h2⟩:=zm h;exact⟨rfl,q5C h1,.inl ⟨rfl,h2⟩⟩
theorem Iw{k:IntKind}{c:Nat}{K:V->RO}(h:nnK k c K= .ok v2 s2):K (nnW k c)= .ok v2 s2:=by
 unfold nnK at h
 cases hb:Nat.blt c (kLim k)with
 |true=>
  rw[hb]at h;unfold nnW;rw[<-P1,hb];exact h
 |false=>rw[hb]at h;exact h
theorem XU{op:BinOp}{k:IntKind}{a b:Nat}{K:V->RO}(h:(binH op).f k a b K= .ok v2 s2):binN op k a b≠ .und/\K (binN op k a b)= .ok v2 s2:=by
 have hw: ∀c,nnW k c≠ .und:=λc=>by
  have:=(CC [] k c).1;intro e;rw[e]at this;cases this
 cases op with
 |add=>exact⟨hw _,Iw h⟩
 |mul=>exact⟨hw _,Iw h⟩
 |sub=>
  have h: @Bool.rec (λ_=>RO) (qF (binI .sub k a b) K) (K (.nn k (Nat.sub a b))) (jf (Nat.ble b a) (Nat.blt a (kLim k)))= .ok v2 s2:=h;have e:jf (Nat.ble b a) (Nat.blt a (kLim k))=(Nat.ble b a&&Nat.blt a (lim k)):=by rw[P1];cases Nat.ble b a<;>rfl
  rw[e]at h;show @Bool.rec (λ_=>V) (binI .sub k a b) (.nn k (Nat.sub a b)) (Nat.ble b a&&Nat.blt a (lim k))≠ .und/\K (@Bool.rec (λ_=>V) (binI .sub k a b) (.nn k (Nat.sub a b)) (Nat.ble b a&&Nat.blt a (lim k)))=_
  cases hb:Nat.ble b a&&Nat.blt a (lim k)with
  |true=>rw[hb]at h;exact⟨by simp,h⟩
  |false=>rw[hb]at h;exact wS h
 |quo=>
  obtain⟨h1,h2⟩:=M3 h;have e:binN .quo k a b=nnW k (Nat.div a b):=by show @Bool.rec (λ_=>V) _ _ (Nat.beq b 0)=_;rw[h1]
  rw[e];exact⟨hw _,Iw h2⟩
 |rem=>
  obtain⟨h1,h2⟩:=M3 h;have e:binN .rem k a b= .nn k (Nat.mod a b):=by show @Bool.rec (λ_=>V) _ _ (Nat.beq b 0)=_;rw[h1]
  rw[e];exact⟨by simp,h2⟩
 |eql=>exact⟨by simp[binN],h⟩
 |neq=>have h:K (.bb (notB (Nat.beq a b)))=_:=h;rw[JI]at h;exact⟨by simp[binN],h⟩
 |lss=>exact⟨by simp[binN],h⟩
 |leq=>exact⟨by simp[binN],h⟩
 |gtr=>exact⟨by simp[binN],h⟩
 |geq=>exact⟨by simp[binN],h⟩
 |_=>exact wS h
theorem MT(m:qR)(k:Key):zA m k=mget m k:=by
 have e4: ∀(d:D16)(m:qR),mg4 d m=m.get d:=by intro d m;cases d<;>rfl
 have e3: ∀(d:D16) m,mg3 d m=N16.get m d:=by intro d m;cases d<;>rfl
 have e2: ∀(d:D16) m,mg2 d m=N16.get m d:=by intro d m;cases d<;>rfl
 have e1: ∀(d:D16) m,mg1 d m=N16.get m d:=by intro d m;cases d<;>rfl
 obtain⟨a,b,c,d⟩:=k;show mg1 d (mg2 c (mg3 b (mg4 a m)))=_;rw[e1,e2,e3,e4];rfl
theorem MW(m:qR)(k:Key)(v:Option KB):AH m k v=mset m k v:=by
 have e4: ∀(d:D16)(m:qR),mg4 d m=m.get d:=by intro d m;cases d<;>rfl
 have e3: ∀(d:D16) m,mg3 d m=N16.get m d:=by intro d m;cases d<;>rfl
 have e2: ∀(d:D16) m,mg2 d m=N16.get m d:=by intro d m;cases d<;>rfl
 have s4: ∀(d:D16)(m:qR) x,ms4 d m x=m.set d x:=by intro d m x;cases d<;>rfl
 have s3: ∀(d:D16) m x,ms3 d m x=N16.set m d x:=by intro d m x;cases d<;>rfl
 have s2: ∀(d:D16) m x,ms2 d m x=N16.set m d x:=by intro d m x;cases d<;>rfl
 have s1: ∀(d:D16) m x,ms1 d m x=N16.set m d x:=by intro d m x;cases d<;>rfl
 obtain⟨a,b,c,d⟩:=k;show ms4 a m (ms3 b (mg4 a m) (ms2 c (mg3 b (mg4 a m)) (ms1 d (mg2 c (mg3 b (mg4 a m))) v)))=_;rw[s4,s3,s2,s1,e2,e3,e4];rfl
theorem C3{v:V}{l a c:List V}{o:Nat}(hw:v.wd<=o)(h0:0<o)(h:cut l (o-v.wd)=some (a,c)):cut (v::l) o=some (v::a,c):=by
 obtain⟨p,rfl⟩: ∃p,o=p+1:=⟨o-1,by omega⟩;rw[Mj,if_pos hw,h]
theorem OI{v:V}(l:List V)(h:v.wd=1):cut (v::l) 1=some ([v],l):=C3 (by omega) (by omega) (by rw[h];exact Ah l)
theorem q2N{v:V}{f:V->RO}(h:uAt v f= .ok v2 s2): ∃u r,f u= .ok v2 s2/\u.on=true/\ ∀l,cut (v::l) 1=some ([u],r++l):=by
 cases v with
 |und=>cases h
 |tu l=>cases h
 |ag w l=>cases h
 |qq s n d=>exact⟨.bb s,[.mg n,.mg (if d=1 then 0 else d)],h,rfl,λl=>rfl⟩
 |_=>exact⟨_,[],h,rfl,λl=>OI l rfl⟩
theorem ifbeq(d:Nat):(@Bool.rec (λ_=>Nat) d 0 (Nat.beq d 1))=if d=1 then 0 else d:=by
 by_cases h:d=1
 .subst h;rfl
 .rw[j5 h,if_neg h]
theorem SJ: ∀{l:List V}{o:Nat}{f:V->RO},ldL l o f= .ok v2 s2-> ∃a u r,f u= .ok v2 s2/\u.on=true/\carve l o 1=some (a,[u],r)
 |[],o,f,h=>by cases h
 |v::l,0,f,h=>by
  obtain⟨u,r,h1,h2,h3⟩:=q2N (show uAt v f= .ok v2 s2 from h);refine⟨[],u,r++l,h1,h2,?_⟩;unfold carve;rw[Ah];simp only;rw[h3]
 |v::l,p+1,f,h=>by
  have h:Dh v (λq=>ldL l q f) p f= .ok v2 s2:=h
  have step:v.wd<=p+1->ldL l (p+1-v.wd) f= .ok v2 s2-> ∃a u r,f u= .ok v2 s2/\u.on=true/\carve (v::l) (p+1) 1=some (a,[u],r):=by
   intro hw h;obtain⟨a,u,r,h1,h2,h3⟩:=SJ h;unfold carve at h3;split at h3
   .rename_i a' c hc
    split at h3
    .rename_i m' r' hc2
     cases h3;refine⟨v::a,u,r,h1,h2,?_⟩;unfold carve;rw[C3 hw (by omega) hc];simp only;rw[hc2]
    .cases h3
   .cases h3
  cases v with
  |und=>cases h
  |tu l=>cases h
  |ag w l=>cases h
  |qq s n d=>
   match p,h,step with
   |0,h,step=>exact⟨[.bb s],.mg n,.mg (if d=1 then 0 else d)::l,h,rfl,rfl⟩
   |1,h,step=>
    have h:f (.mg (@Bool.rec (λ_=>Nat) d 0 (Nat.beq d 1)))= .ok v2 s2:=h;rw[ifbeq]at h
    exact⟨[.bb s,.mg n],.mg (if d=1 then 0 else d),l,h,rfl,by
    unfold carve;have e:cut (V.qq s n d::l) (1+1)=some ([.bb s,.mg n],.mg (if d=1 then 0 else d)::l):=rfl;rw[e];simp only
    rw[OI l rfl]⟩
   |q+2,h,step=>exact step (by show 3<=q+2+1;omega) h
  |_=>exact step (by show 1<=p+1;omega) h
theorem YX{v u:V}{o:Nat}{a r:List V}(ks:List (Key×KB))(h:carve v.us o 1=some (a,[u],r))(hu:u.on=true):ldS false 1 v o ks= .val u ks:=by
 unfold ldS;rw[h];simp only;have:mkV false 1 [u]=u:=by show @Bool.rec (λ_=>V) .und u u.on=u;rw[hu]
 rw[this];cases u<;>first|rfl|cases hu
theorem Es{v u:V}{o:Nat}{a r:List V}(ks:List (Key×KB))(h1:(Nat.beq o 0&&Nat.beq 1 v.size&&xorB false v.on)=false)(h2:carve v.us o 1=some (a,[u],r))(h3:u.on=true):ldG false 1 v o ks= .val u ks:=by
 unfold ldG;rw[h1];exact YX ks h2 h3
theorem SG{v:V}{o:Nat}{f:V->RO}(ks:List (Key×KB))(h:ld1 v o f= .ok v2 s2): ∃u,u≠ .und/\f u= .ok v2 s2/\ldG false 1 v o ks= .val u ks:=by
 have one: ∀{x:V},x.on=true->v=x->(@Nat.rec (λ_=>RO) (f x) (λ_ _=> .no [94]) o= .ok v2 s2)-> ∃u,u≠ .und/\f u= .ok v2 s2/\ldG false 1 v o ks= .val u ks:=by
  intro x hx e h;subst e
  cases o with
  |succ p=>cases h
  |zero=>
   refine⟨v,okC_ne' hx,h,?_⟩;unfold ldG
   have:(Nat.beq 0 0&&Nat.beq 1 v.size&&xorB false v.on)=true:=by
    rw[hx];have:v.size=1:=by cases v<;>first|rfl|cases hx
    rw[this];rfl
   rw[this]
 cases v with
 |und=>cases h
 |tu l=>cases h
 |ag w l=>
  obtain⟨a,u,r,h1,h2,h3⟩:=SJ (show ldL l o f= .ok v2 s2 from h);exact⟨u,okC_ne' h2,h1,Es ks (by simp[V.on,xorB]) h3 h2⟩
 |qq s n d=>
  match o,h with
  |0,h=>exact⟨.bb s,by simp,h,Es ks rfl (a:=[]) (r:=[.mg n,.mg (if d=1 then 0 else d)]) rfl rfl⟩
  |1,h=>exact⟨.mg n,by simp,h,Es ks rfl (a:=[.bb s]) (r:=[.mg (if d=1 then 0 else d)]) rfl rfl⟩
  |2,h=>
   have h:f (.mg (@Bool.rec (λ_=>Nat) d 0 (Nat.beq d 1)))= .ok v2 s2:=h;rw[ifbeq]at h;exact⟨_,by simp,h,Es ks rfl (a:=[.bb s,.mg n]) (r:=[]) rfl rfl⟩
  |o+3,h=>cases h
 |_=>exact one rfl rfl h
where okC_ne' {v:V} (h:v.on=true):v≠ .und:=λe=>by subst e;cases h
theorem YY{g:Bool}{s:Nat}{v:V}{o:Nat}(ks:List (Key×KB))(h:(ldS g s v o []).res≠ .und):ldS g s v o ks= .val (ldS g s v o []).res ks:=by
 unfold ldS at h⊢
 cases hc:carve v.us o s with
 |none=>rw[hc]at h;exact absurd rfl h
 |some p=>
  obtain⟨a,l,r⟩:=p;rw[hc]at h;simp only at h⊢;cases hm:mkV g s l<;>first|(rw[hm]at h;exact absurd rfl h)|rfl
theorem Jz: ∀{l:List V}{o:Nat}{f:V->RO}{z:RO},ldL3 l o f z= .ok v2 s2->(∃a u r,f u= .ok v2 s2/\(∃s n d,u= .qq s n d)/\carve l o 3=some (a,[u],r))\/z= .ok v2 s2
 |[],o,f,z,h=> .inr h
 |v::l,0,f,z,h=>by
  cases v with
  |qq s n d=>
   refine .inl ⟨[],.qq s n d,l,h,⟨s,n,d,rfl⟩,?_⟩;unfold carve;rw[Ah];simp only;rw[C3 (v:= .qq s n d) (q5H 3) (by omega) (Ah l)]
  |_=>exact .inr h
 |v::l,p+1,f,z,h=>by
  have step:v.wd<=p+1->ldL3 l (p+1-v.wd) f z= .ok v2 s2->(∃a u r,f u= .ok v2 s2/\(∃s n d,u= .qq s n d)/\carve (v::l) (p+1) 3=some (a,[u],r))\/z= .ok v2 s2:=by
   intro hw h;rcases Jz h with⟨a,u,r,h1,h2,h3⟩|h
   .left
    unfold carve at h3;split at h3
    .rename_i a' c hc
     split at h3
     .rename_i m' r' hc2
      cases h3;refine⟨v::a,u,r,h1,h2,?_⟩;unfold carve;rw[C3 hw (by omega) hc];simp only;rw[hc2]
     .cases h3
    .cases h3
   .exact .inr h
  cases v with
  |und=>exact .inr h
  |tu l=>exact .inr h
  |ag w l=>exact .inr h
  |qq s n d=>
   match p,h,step with
   |0,h,step=>exact .inr h
   |1,h,step=>exact .inr h
   |q+2,h,step=>exact step (by show 3<=q+2+1;omega) h
  |_=>exact step (by show 1<=p+1;omega) h
theorem SH{v:V}{s o:Nat}{K:V->RO}(ks:List (Key×KB))(h:ldA v s o K (qF (ldS true s v o []).res K)= .ok v2 s2): ∃u,u≠ .und/\K u= .ok v2 s2/\ldG true s v o ks= .val u ks:=by
 have slow:(Nat.beq o 0&&Nat.beq s v.size&&xorB true v.on)=false->qF (ldS true s v o []).res K= .ok v2 s2-> ∃u,u≠ .und/\K u= .ok v2 s2/\ldG true s v o ks= .val u ks:=by
  intro h1 h2;obtain⟨q1,q2⟩:=wS h2;refine⟨_,q1,q2,?_⟩;unfold ldG;rw[h1];exact YY ks q1
 cases v with
 |und=>cases h
 |tu l=>cases h
 |ag w l=>
  have h: @Bool.rec (λ_=>RO) (@Bool.rec (λ_=>RO) _ (ldL3 l o K _) (Nat.beq s 3)) (K (.ag w l)) (@Bool.rec (λ_=>Bool) false (Nat.beq s w) (Nat.beq o 0))= .ok v2 s2:=h
  cases ho:Nat.beq o 0 with
  |true=>
   rw[ho]at h
   cases hs:Nat.beq s w with
   |true=>
    rw[hs]at h;refine⟨.ag w l,by simp,h,?_⟩;unfold ldG
    have:(Nat.beq o 0&&Nat.beq s (V.ag w l).size&&xorB true (V.ag w l).on)=true:=by
     show(Nat.beq o 0&&Nat.beq s w&&true)=true;rw[ho,hs];rfl
    rw[this]
   |false=>
    rw[hs]at h
    have hc:(Nat.beq o 0&&Nat.beq s (V.ag w l).size&&xorB true (V.ag w l).on)=false:=by
     show(Nat.beq o 0&&Nat.beq s w&&true)=false;rw[hs];simp
    cases h3:Nat.beq s 3 with
    |false=>rw[h3]at h;exact slow hc h
    |true=>
     rw[h3]at h;have h3:=q5C h3;subst h3;rcases Jz h with⟨a,u,r,h1,⟨sg,n,d,rfl⟩,h4⟩|h
     .refine⟨_,by simp,h1,?_⟩
      unfold ldG;rw[hc];show ldS true 3 (.ag w l) o ks=_;unfold ldS;rw[show(V.ag w l).us=l from rfl,h4];rfl
     .exact slow hc h
  |false=>
   rw[ho]at h;have hc:(Nat.beq o 0&&Nat.beq s (V.ag w l).size&&xorB true (V.ag w l).on)=false:=by rw[ho];rfl
   cases h3:Nat.beq s 3 with
   |false=>rw[h3]at h;exact slow hc h
   |true=>
    rw[h3]at h;have h3:=q5C h3;subst h3;rcases Jz h with⟨a,u,r,h1,⟨sg,n,d,rfl⟩,h4⟩|h
    .refine⟨_,by simp,h1,?_⟩
     unfold ldG;rw[hc];show ldS true 3 (.ag w l) o ks=_;unfold ldS;rw[show(V.ag w l).us=l from rfl,h4];rfl
    .exact slow hc h
 |qq sg n d=>
  have h: @Bool.rec (λ_=>RO) _ (K (.qq sg n d)) (@Bool.rec (λ_=>Bool) false (Nat.beq s 3) (Nat.beq o 0))= .ok v2 s2:=h
  cases ho:Nat.beq o 0 with
  |true=>
   rw[ho]at h
   cases hs:Nat.beq s 3 with
   |true=>
    rw[hs]at h;refine⟨_,by simp,h,?_⟩;unfold ldG
    have:(Nat.beq o 0&&Nat.beq s (V.qq sg n d).size&&xorB true (V.qq sg n d).on)=true:=by
     show(Nat.beq o 0&&Nat.beq s 3&&true)=true;rw[ho,hs];rfl
    rw[this]
   |false=>
    rw[hs]at h;exact slow (by show(Nat.beq o 0&&Nat.beq s 3&&true)=false;rw[hs];simp) h
  |false=>rw[ho]at h;exact slow (by rw[ho];rfl) h
 |_=>exact slow (by simp[V.on,xorB]) h
theorem VT{g:Bool}{s:Nat}{v:V}{o:Nat}{K:V->RO}(ks:List (Key×KB))(hs:g=false->s=1)(h:AJ g s v o K= .ok v2 s2): ∃u,u≠ .und/\K u= .ok v2 s2/\ldG g s v o ks= .val u ks:=by
 cases g with
 |true=>exact SH ks h
 |false=>have:=hs rfl;subst this;exact SG ks h
theorem SB{b:Option KB}{f:V->RO}(h:kbB b f= .ok v2 s2): ∃v,b=some (.bx v)/\f v= .ok v2 s2:=by
 cases b with
 |none=>cases h
 |some b=>cases b<;>first|exact⟨_,rfl,h⟩|cases h
theorem SC{b:Option KB}{f g:Nat->Nat->Sq V->RO}(h:kbR b f g= .ok v2 s2):(∃es n q,b=some (.arr es n q)/\f es n q= .ok v2 s2)\/(∃es n q,b=some (.gro es n q)/\g es n q= .ok v2 s2):=by
 cases b with
 |none=>cases h
 |some b=>cases b<;>first|exact .inl ⟨_,_,_,rfl,h⟩|exact .inr ⟨_,_,_,rfl,h⟩|cases h
theorem JC {P : Program} {t : TypeId} {g : Bool} {s : Nat} {m : qR} {p : V} {K : V -> RO} {part : V -> Nat -> RO} (hs : qE P t = some (g, s))
  (hp : ∀ v o ks, part v o = .ok v2 s2 -> ∃ u, u ≠ .und /\ K u = .ok v2 s2 /\ ldG g s v o ks = .val u ks)
  (h : qP p (λk o => kbB (zA m k) λv => part v o)
   (λk i o w => kbR (zA m k) (λes n q => @Bool.rec (λ_ => RO) (.no [98]) (part (Sq.get .und q i) o) (jf (Nat.beq w es) (Nat.blt i n)))
    (λes n q => @Bool.rec (λ_ => RO) (.no [98]) (part (Sq.get .und q i) o) (jf (Nat.beq w es) (Nat.blt i n)))) = .ok v2 s2) :
  ∃ u ks, u ≠ .und /\ K u = .ok v2 s2 /\ v4 P m t p = .val u ks := by
 have hv : ∀ v o ks, ldV P t v o ks = ldG g s v o ks := λv o ks => by unfold ldV; rw [hs]
 rcases Gk h with ⟨k, o, e, h'⟩ | ⟨k, i, o, w, e, h'⟩ <;> subst e <;> rw [MT] at h'
 .obtain ⟨v, hb, h'⟩ := SB h'
  obtain ⟨u, h1, h2, h3⟩ := hp v o [(k, .bx v)] h';refine ⟨u, [(k, .bx v)], h1, h2, ?_⟩;simp only [v4, hb];rw [hv]; exact h3
 .rcases SC h' with ⟨es, n, q, hb, h'⟩ | ⟨es, n, q, hb, h'⟩ <;> obtain ⟨hc, h'⟩ := zm h'
  .obtain ⟨u, h1, h2, h3⟩ := hp _ o [(k, .arr es n q)] h'
   refine ⟨u, [(k, .arr es n q)], h1, h2, ?_⟩;simp only [v4, hb];rw [jy] at hc;rw [hc.1, hc.2, hv]; exact h3
  .obtain ⟨u, h1, h2, h3⟩ := hp _ o [(k, .gro es n q)] h'
   refine ⟨u, [(k, .gro es n q)], h1, h2, ?_⟩;simp only [v4, hb];rw [jy] at hc;rw [hc.1, hc.2, hv]; exact h3
theorem q4K{x:V}(h:x.un=true):x.us=[x]:=by cases x<;>first|rfl|cases h
theorem TO{x:V}: ∀{l:List V}{o w:Nat}{f:List V->RO}{z:RO},stL l o x w f z= .ok v2 s2->(∃a u r,f (a++x::r)= .ok v2 s2/\carve l o w=some (a,[u],r))\/z= .ok v2 s2
 |[],o,w,f,z,h=> .inr h
 |v::l,0,w,f,z,h=>by
  have h:Di v w (f (x::l)) z= .ok v2 s2:=h
  have key: ∀n:Nat,v.wd=n->0<n->(@Bool.rec (λ_=>RO) z (f (x::l)) (Nat.beq w n))= .ok v2 s2->(∃a u r,f (a++x::r)= .ok v2 s2/\carve (v::l) 0 w=some (a,[u],r))\/z= .ok v2 s2:=by
   intro n hn h0 h
   cases hb:Nat.beq w n with
   |false=>rw[hb]at h;exact .inr h
   |true=>
    rw[hb]at h;have:=q5C hb;subst this;refine .inl ⟨[],v,l,h,?_⟩;unfold carve;rw[Ah];simp only;rw[C3 (Nat.le_of_eq hn) h0 (by rw[hn,Nat.sub_self];exact Ah l)]
  cases v with
  |und=>exact .inr h
  |tu l=>exact .inr h
  |ag w l=>exact .inr h
  |qq s n d=>exact key 3 rfl (by omega) h
  |_=>exact key 1 rfl (by omega) h
 |v::l,p+1,w,f,z,h=>by
  have h:Dj v p (λq=>stL l q x w (λl=>f (v::l)) z) z= .ok v2 s2:=h
  have step:v.wd<=p+1->stL l (p+1-v.wd) x w (λl=>f (v::l)) z= .ok v2 s2->(∃a u r,f (a++x::r)= .ok v2 s2/\carve (v::l) (p+1) w=some (a,[u],r))\/z= .ok v2 s2:=by
   intro hw h;rcases TO h with⟨a,u,r,h1,h3⟩|h
   .left
    unfold carve at h3;split at h3
    .rename_i a' c hc
     split at h3
     .rename_i m' r' hc2
      cases h3;refine⟨v::a,u,r,h1,?_⟩;unfold carve;rw[C3 hw (by omega) hc];simp only;rw[hc2]
     .cases h3
    .cases h3
   .exact .inr h
  cases v with
  |und=>exact .inr h
  |tu l=>exact .inr h
  |ag w l=>exact .inr h
  |qq s n d=>
   match p,h,step with
   |0,h,step=>exact .inr h
   |1,h,step=>exact .inr h
   |q+2,h,step=>exact step (by show 3<=q+2+1;omega) h
  |_=>exact step (by show 1<=p+1;omega) h
theorem P7{v x:V}{o s:Nat}{K:V->RO}(h:layF v o s x K= .ok v2 s2):isC x=true/\x.size=s/\ ∃y,putV v o s x=some y/\K y= .ok v2 s2:=by
 unfold layF at h;obtain⟨h1,h2,h3⟩:=q4f h;refine⟨h1,h2,?_⟩
 have slow:(@Option.rec V (λ_=>RO) (.no [96]) K (putV v o s x)= .ok v2 s2)-> ∃y,putV v o s x=some y/\K y= .ok v2 s2:=by
  intro h
  cases hp:putV v o s x with
  |none=>rw[hp]at h;cases h
  |some y=>rw[hp]at h;exact⟨y,rfl,h⟩
 rcases h3 with⟨hu,h⟩|h
 .generalize hz:(@Option.rec V (λ_=>RO) (.no [96]) K (putV v o s x))=z at h slow
  have whole: ∀w:Nat,v.size=w->(@Bool.rec (λ_=>RO) z (K x) (@Bool.rec (λ_=>Bool) false (Nat.beq s w) (Nat.beq o 0)))= .ok v2 s2-> ∃y,putV v o s x=some y/\K y= .ok v2 s2:=by
   intro w hw h
   cases ho:Nat.beq o 0 with
   |false=>rw[ho]at h;exact slow h
   |true=>
    rw[ho]at h
    cases hs:Nat.beq s w with
    |false=>rw[hs]at h;exact slow h
    |true=>
     rw[hs]at h;refine⟨x,?_,h⟩;unfold putV;rw[ho,hw,hs];rfl
  cases v with
  |und=>cases h
  |tu l=>cases h
  |ag w l=>
   have h: @Bool.rec (λ_=>RO) (stL l o x s (λl=>K (.ag w l)) z) (K x) (@Bool.rec (λ_=>Bool) false (Nat.beq s w) (Nat.beq o 0))= .ok v2 s2:=h
   have part:(Nat.beq o 0&&Nat.beq s w)=false->stL l o x s (λl=>K (.ag w l)) z= .ok v2 s2-> ∃y,putV (.ag w l) o s x=some y/\K y= .ok v2 s2:=by
    intro hc h;rcases TO h with⟨a,u,r,h4,h5⟩|h
    .refine⟨_,?_,h4⟩
     unfold putV;rw[show(V.ag w l).size=w from rfl,hc,show(V.ag w l).us=l from rfl,h5,q4K hu];rfl
    .exact slow h
   cases ho:Nat.beq o 0 with
   |false=>rw[ho]at h;exact part (by rw[ho];rfl) h
   |true=>
    rw[ho]at h
    cases hs:Nat.beq s w with
    |false=>rw[hs]at h;exact part (by rw[hs];simp) h
    |true=>
     rw[hs]at h;refine⟨x,?_,h⟩;unfold putV;rw[show(V.ag w l).size=w from rfl,ho,hs];rfl
  |qq sg n d=>exact whole 3 rfl h
  |_=>exact whole 1 rfl h
 .exact slow h
theorem JU{S0:S}{k:Key}{b:KB}{K:V->S->RO}(h:setS S0 k b K= .ok v2 s2):K (.tu []) ⟨mset S0.m k (some b),S0.nx,S0.dn,S0.sc⟩= .ok v2 s2:=by
 obtain⟨m,nx,dn,sc⟩:=S0;have h:K (.tu []) ⟨AH m k (some b),nx,dn,sc⟩= .ok v2 s2:=h;rw[MW]at h;exact h
theorem TR{P:Program}{t:TypeId}{g:Bool}{s:Nat}{S0:S}{p x:V}{K:V->S->RO}(hs:qE P t=some (g,s))(h:AN s S0 p x K= .ok v2 s2):
  ∃s1,ap S0 (wY P S0.m t p x)= .ok (.tu []) s1/\K (.tu []) s1= .ok v2 s2:=by
 unfold AN at h;rcases Gk h with⟨k,o,e,h'⟩|⟨k,i,o,w,e,h'⟩<;>subst e<;>rw[MT]at h'
 .obtain⟨v,hb,h'⟩:=SB h'
  obtain⟨h1,h2,y,h3,h4⟩:=P7 h';refine⟨_,?_,JU h4⟩
  have:wY P S0.m t (.pp k o) x= .wr (.tu []) [(k,.bx v)] k (.bx y):=by
   simp only[wY,hs,hb,h3];rw[h2,h1,Nat.beq_refl];rfl
  rw[this];rfl
 .rcases SC h' with⟨es,n,q,hb,h'⟩|⟨es,n,q,hb,h'⟩<;>obtain⟨hc,h'⟩:=zm h'<;>obtain⟨h1,h2,y,h3,h4⟩:=P7 h'<;>rw[jy]at hc
  .refine⟨_,?_,JU h4⟩
   have:wY P S0.m t (.ee k i o w) x= .wr (.tu []) [(k,.arr es n q)] k (.arr es n (Sq.set y q i)):=by
    simp only[wY,hs,hb,h3];rw[h2,h1,Nat.beq_refl,hc.1,hc.2];rfl
   rw[this];rfl
  .refine⟨_,?_,JU h4⟩
   have:wY P S0.m t (.ee k i o w) x= .wr (.tu []) [(k,.gro es n q)] k (.gro es n (Sq.set y q i)):=by
    simp only[wY,hs,hb,h3];rw[h2,h1,Nat.beq_refl,hc.1,hc.2];rfl
   rw[this];rfl
theorem Iz{d:D16}{f:D16->RO}{z:RO}(h:nxD d f z= .ok v2 s2):(∃d',d.next=some d'/\f d'= .ok v2 s2)\/(d.next=none/\z= .ok v2 s2):=by
 cases d<;>first|exact .inl ⟨_,rfl,h⟩|exact .inr ⟨rfl,h⟩
theorem Wp{k:Key}{f:Key->RO}(h:BV k f= .ok v2 s2): ∃k',k.succ=some k'/\f k'= .ok v2 s2:=by
 obtain⟨a,b,c,d⟩:=k;rcases Iz (show nxD d _ _= .ok v2 s2 from h)with⟨d',e,h⟩|⟨ed,h⟩
 .exact⟨_,by simp only[Key.succ,e],h⟩
 rcases Iz h with⟨d',e,h⟩|⟨ec,h⟩
 .exact⟨_,by simp only[Key.succ,ed,e],h⟩
 rcases Iz h with⟨d',e,h⟩|⟨eb,h⟩
 .exact⟨_,by simp only[Key.succ,ed,ec,e],h⟩
 rcases Iz h with⟨d',e,h⟩|⟨ea,h⟩
 .exact⟨_,by simp only[Key.succ,ed,ec,eb,e],h⟩
 cases h
theorem Ph{S0:S}{v:V}{K:V->S->RO}(h:newF S0 v K= .ok v2 s2): ∃s1,ap S0 (.nw (.pp S0.nx 0) [] (.bx v))= .ok (.pp S0.nx 0) s1/\K (.pp S0.nx 0) s1= .ok v2 s2:=by
 obtain⟨m,nx,dn,sc⟩:=S0;have h:BV nx (λk'=>K (.pp nx 0) ⟨AH m nx (some (.bx v)),k',dn,sc⟩)= .ok v2 s2:=h;obtain⟨k',e,h⟩:=Wp h;rw[MW]at h;refine⟨_,?_,h⟩;show putK m nx dn sc _ _=_;unfold putK;rw[e]
theorem DS{r:RO}{K:V->S->RO}(h:roK r K= .ok v2 s2): ∃v s,r= .ok v s/\K v s= .ok v2 s2:=by cases r<;>first|exact⟨_,_,rfl,h⟩|cases h
end
end
noncomputable section
section
variable {v2:V} {s2:S}
theorem OT(a b:D16)(e:Env16):(gTab a b).f e=LK a b e.lo:=by cases a<;>cases b<;>rfl
theorem PL(a b:D16)(v:V)(e:Env16):(sTab a b).f v e=⟨Qo a b v e.lo,e.hi⟩:=by cases a<;>cases b<;>rfl
theorem q3B{t:Nat}(ht:Nat.blt t 512=true)(e:Env16):(gT t).f e=slot e t:=by
 have ht:t<512:=by simpa using ht
 by_cases h:t<256
 .have e1:gT t=gT0 t:=by unfold gT;rw[E5 h];rfl
  rw[e1,Ce h];unfold gT0 Ab;rw[OT,E5 h]
 .have e1: ∀e,(gT t).f e=(gT0 (t-256)).f (swE e):=λe=>by unfold gT;rw[Lm h];rfl
  rw[e1,Cd h];unfold gT0 Ab;rw[OT,E5 (show t-256<256 by omega)];rfl
theorem q4o(t:Nat)(v:V)(e:Env16):(sT t).f v e=eset e t v:=by
 by_cases h:t<256
 .have e1:sT t=sT0 t:=by unfold sT;rw[E5 h];rfl
  rw[e1,OM h];unfold sT0 BN;rw[PL]
 .have e1:(sT t).f v e=swE ((sT0 (t-256)).f v (swE e)):=by unfold sT;rw[Lm h];rfl
  rw[e1,OL h];unfold sT0 BN;rw[PL];rfl
theorem OR{X:Type}{v:V}{f:V->Option X}{x:X}(h:frcV v f none=some x):v≠ .und/\f v=some x:=by cases v<;>first|exact⟨by simp,h⟩|cases h
variable {α:Type} {P:Program} {loc D:Nat} {m:Mp α} {fr:α} {e' e:Env16}
def SrcOk(loc:Nat)(fr:α)(e' e:Env16)(t:Nat):Src α->Prop
 | .c v=>slot e t=v/\v≠ .und
 | .g d n f=>(d=true->slot e t≠ .und)/\(∀e'',(∀t',n=t'+1->slot e'' t'=slot e' t')->f fr e''=slot e t)/\ ∀t',n=t'+1->Nat.testBit loc t'=false
 | .dead=>True
structure Inv (loc D:Nat) (m:Mp α) (fr:α) (e' e:Env16):Prop where
 ag: ∀t,Nat.testBit loc t=false->slot e' t=slot e t
 mp: ∀t x,vp t m=some x->Nat.testBit loc t=true/\SrcOk loc fr e' e t x
 df: ∀t,Nat.testBit D t=true->slot e t≠ .und
theorem A7{x:Operand}{y:Src α}(h:src loc D m x=some y)(hi:Inv loc D m fr e' e):
  (∀v,y= .c v->qb e x=v/\v≠ .und)/\ ∀d n f,y= .g d n f->f fr e'=qb e x/\(d=true->qb e x≠ .und)/\(∀e'',(∀t',n=t'+1->slot e'' t'=slot e' t')->f fr e''=qb e x)/\ ∀t',n=t'+1->Nat.testBit loc t'=false:=by
 cases x with
 |tmp t=>
  show _;have h:(bif Nat.testBit loc t then(match vp t m with|some .dead=>none|y=>y)else(bif Nat.blt t 512 then(match gT t with|⟨f⟩=>some (.g (Nat.testBit D t) (t+1) λ_ e=>f e))else none))=some y:=h
  cases hl:Nat.testBit loc t with
  |true=>
   rw[hl,cond_true]at h
   have h:vp t m=some y:=by
    split at h
    .cases h
    .exact h
   obtain⟨_,h2⟩:=hi.mp t y h;refine⟨λv e=>?_,λd n f e=>?_⟩
   .subst e;exact h2
   .subst e;exact⟨h2.2.1 e' λ_ _=>rfl,h2.1,h2.2.1,h2.2.2⟩
  |false=>
   rw[hl,cond_false]at h
   cases hb:Nat.blt t 512 with
   |false=>rw[hb]at h;cases h
   |true=>
    rw[hb,cond_true]at h;have hg: ∀e'',(gT t).f e''=slot e'' t:=λe''=>q3B hb e''
    generalize gT t=q at h hg;obtain⟨f0⟩:=q;cases h;refine⟨λv e=>(by cases e),λd n f eq=>?_⟩;cases eq;have hag:=hi.ag t hl;refine⟨(by show f0 e'=slot e t;rw[<-hag];exact hg e'),hi.df t,λe'' he=>?_,λt' ht=>(by have e1:t=t':=Nat.succ.inj ht;rw[<-e1];exact hl)⟩;show f0 e''=slot e t;rw[<-hag,<-he t rfl];exact hg e''
 |const v=>
  obtain⟨h1,h2⟩:=OR (show frcV (jR v) _ none=some y from h);cases h2;exact⟨λu eq=>by cases eq;exact⟨rfl,h1⟩,λd n f eq=>by cases eq⟩
 |global g=>cases h
 |func f=>cases h;exact⟨λu eq=>by cases eq;exact⟨rfl,by simp⟩,λd n f eq=>by cases eq⟩
theorem qH{x:Operand}{g:GV α}(h:gv loc D m x=some g)(hi:Inv loc D m fr e' e):g.f fr e'=qb e x:=by
 unfold gv at h;split at h
 .rename_i v hs;cases h;exact((A7 hs hi).1 v rfl).1.symm
 .rename_i d n f hs;cases h;exact((A7 hs hi).2 d n f rfl).1
 .cases h
theorem Sf{x:Operand}{g:GV α}(h:gvD loc D m x=some g)(hi:Inv loc D m fr e' e):g.f fr e'=qb e x/\qb e x≠ .und:=by
 unfold gvD at h;split at h
 .rename_i v hs;cases h
  have:=(A7 hs hi).1 v rfl;exact⟨this.1.symm,by rw[this.1];exact this.2⟩
 .rename_i n f hs;cases h
  have:=(A7 hs hi).2 true n f rfl;exact⟨this.1,this.2.1 rfl⟩
 .cases h
theorem Bt: ∀{xs:List Operand}{l:VL α},gvs loc D m xs=some l->Inv loc D m fr e' e->l.f fr e'=evs e xs
 |[],l,h,hi=>by cases h;rfl
 |x::r,l,h,hi=>by
  unfold gvs at h;split at h
  .rename_i g l' h1 h2
   cases h;show g fr e'::l' fr e'=qb e x::evs e r;rw[<-qH h1 hi,<-Bt h2 hi]
  .cases h
theorem Dy: ∀{xs:List Operand}{l:CD α}{z:RO},dfs loc D m xs=some l->Inv loc D m fr e' e->l.f fr e' z= .ok v2 s2->(∀x∈xs,qb e x≠ .und)/\z= .ok v2 s2
 |[],l,z,h,hi,hz=>by cases h;exact⟨λx hx=>(by simp at hx),hz⟩
 |x::r,l,z,h,hi,hz=>by
  unfold dfs at h;split at h
  .rename_i v hs
   obtain⟨h1,h2⟩:=Dy h hi hz;have:=(A7 hs hi).1 v rfl;exact⟨λy hy=>by rcases q5j.1 hy with rfl|hy;(rw[this.1];exact this.2);exact h1 y hy,h2⟩
  .rename_i n f hs
   obtain⟨h1,h2⟩:=Dy h hi hz;have:=(A7 hs hi).2 true n f rfl;exact⟨λy hy=>by rcases q5j.1 hy with rfl|hy;exact this.2.1 rfl;exact h1 y hy,h2⟩
  .rename_i n f l' hs hl
   cases h;obtain⟨h3,h4⟩:=Xz (show qD (f fr e') (l' fr e' z)= .ok v2 s2 from hz);obtain⟨h1,h2⟩:=Dy hl hi h4;have:=(A7 hs hi).2 false n f rfl;exact⟨λy hy=>by rcases q5j.1 hy with rfl|hy;(rw[<-this.1];exact h3);exact h1 y hy,h2⟩
  .cases h
theorem q0g{r:KR}(h:Vl r)(hr:r.res≠ .und):r= .val r.res []:=by
 rcases h with rfl|⟨v,rfl⟩
 .exact absurd rfl hr
 .rfl
theorem W4{v:V}(h:v≠ .und):retV v= .val v []:=by cases v<;>first|rfl|exact absurd rfl h
def Told(P:Program)(e:Env16)(s:S)(op:Op)(K:V->RO)(v2:V)(s2:S):Prop:= ∃v,v≠ .und/\(∀rc,zD rc P e s op= .ok v s)/\K v= .ok v2 s2
theorem told{s:S}{op:Op}{K:V->RO}{v:V}(hv:v≠ .und){ks:List (Key×KB)}(h: ∀rc,zD rc P e s op=ap s (kop P e s.m s.nx op))(hk:kop P e s.m s.nx op= .val v ks)(hK:K v= .ok v2 s2):Told P e s op K v2 s2:=
 ⟨v,hv,λrc=>by rw[h rc,hk];rfl,hK⟩
theorem zl{s:S}{op:Op}{K:V->RO}{r:KR}(h: ∀rc,zD rc P e s op=ap s (kop P e s.m s.nx op))(hk:kop P e s.m s.nx op=r)(hr:Vl r)(hK:qF r.res K= .ok v2 s2):Told P e s op K v2 s2:=by
 obtain⟨h1,h2⟩:=wS hK;exact told h1 h (hk.trans (q0g hr h1)) h2
theorem Pj: ∀(i:Nat){l:List V}{K:V->RO},(nthC i).f l K= .ok v2 s2-> ∃v,l[i]?=some v/\v≠ .und/\K v= .ok v2 s2
 |0,[],K,h=>by cases h
 |0,v::l,K,h=>⟨v,rfl,wS h⟩
 |i+1,[],K,h=>by
  unfold nthC at h;revert h;generalize nthC i=q;obtain⟨g⟩:=q;intro h;cases h
 |i+1,v::l,K,h=>by
  have:(nthC i).f l K= .ok v2 s2:=by
   unfold nthC at h;revert h;generalize nthC i=q;obtain⟨g⟩:=q;intro h;exact h
  exact Pj i this
theorem Uy{op:Op}{h:VC α}{s:S}{K:V->RO}(hc:Qj P loc D m op=some h)(hi:Inv loc D m fr e' e)(hv:h.f fr e' s K= .ok v2 s2):Told P e s op K v2 s2:=by
 have hc:vk P loc D m op=some h:=by
  have:Qj P loc D m op=Mi.1 P loc D m op:=rfl;rw[this,Mi.2]at hc;exact hc
 cases op with
 |load t x=>
  unfold vk at hc;simp only at hc;split at hc
  .rename_i g sz hg hs
   cases hc;have hg:=qH hg hi;obtain⟨u,ks,h1,h2,h3⟩:=JC (K:=K) (part:=λv o=>ldA v sz o K (qF (ldS true sz v o []).res K)) hs (λv o ks h=>SH ks h) hv;exact told h1 (λrc=>rfl) (by show v4 P s.m t (qb e x)=_;rw[<-hg];exact h3) h2
  .rename_i g hg hs
   cases hc;have hg:=qH hg hi;obtain⟨u,ks,h1,h2,h3⟩:=JC (K:=K) (part:=λv o=>ld1 v o K) hs (λv o ks h=>SG ks h) hv;exact told h1 (λrc=>rfl) (by show v4 P s.m t (qb e x)=_;rw[<-hg];exact h3) h2
  .cases hc
 |binOp op t x y yt=>
  unfold vk at hc;simp only at hc;split at hc
  .rename_i gx sy hgx hsy
   have hx:=qH hgx hi
   cases hsh:isSh op with
   |true=>
    rw[hsh,cond_true]at hc;split at hc
    .rename_i gy hgy
     cases hc;have hy:=qH hgy hi;exact zl (λrc=>rfl) (by show kBin P op t (qb e x) (qb e y)=_;rw[<-hx,<-hy]) DX hv
    .cases hc
   |false=>
    rw[hsh,cond_false]at hc
    have hnn: ∀{k k':IntKind}{a b:Nat},keqF k k'=true->(binH op).f k a b K= .ok v2 s2->qb e x= .nn k a->qb e y= .nn k' b->Told P e s (.binOp op t x y yt) K v2 s2:=by
     intro k k' a b hk hb ex ey;obtain⟨h1,h2⟩:=XU hb;refine told h1 (λrc=>rfl) (ks:=[]) ?_ h2;show kBin P op t (qb e x) (qb e y)=_;rw[ex,ey];rw[P2]at hk;show @Bool.rec (λ_=>KR) (@Bool.rec (λ_=>KR) .bad (retV (binN op k a b)) (keq k k')) (retV (shN op k a b)) (isSh op)=_;rw[hsh,hk];exact W4 h1
    generalize hbh:binH op=bh at hc hnn;obtain⟨hf⟩:=bh
    cases sy with
    |c u=>
     have hy:=((A7 hsy hi).1 u rfl).1
     have gen:some (⟨λfr e _ K=>qF (kBin P op t (gx fr e) u).res K⟩:VC α)=some h->Told P e s (.binOp op t x y yt) K v2 s2:=by
      intro hc;cases hc;exact zl (λrc=>rfl) (by show kBin P op t (qb e x) (qb e y)=_;rw[hy,<-hx]) DX hv
     cases u with
     |nn kc c=>
      cases hc;rcases IO hv with⟨k,a,ex,h⟩|⟨hn,h⟩
      .obtain⟨hk,h⟩:=zm h
       exact hnn hk h (by rw[<-hx];exact ex) hy
      .exact zl (λrc=>rfl) (by show kBin P op t (qb e x) (qb e y)=_;rw[hy,<-hx]) DX h
     |_=>exact gen hc
    |dead=>cases hc
    |g d n gy=>
     have hy:=((A7 hsy hi).2 d n gy rfl).1;cases hc;rcases IO hv with⟨k,a,ex,h⟩|⟨hn,h⟩
     .rcases IO h with⟨k',b,ey,h⟩|⟨hn,h⟩
      .obtain⟨hk,h⟩:=zm h
       exact hnn hk h (by rw[<-hx];exact ex) (by rw[<-hy];exact ey)
      .have ex:qb e x= .nn k a:=by rw[<-hx];exact ex
       exact zl (λrc=>rfl) (by show kBin P op t (qb e x) (qb e y)=_;rw[<-hy,ex]) DX h
     .exact zl (λrc=>rfl) (by show kBin P op t (qb e x) (qb e y)=_;rw[<-hy,<-hx]) DX h
  .cases hc
 |fieldAddr st x f=>
  unfold vk at hc;simp only at hc;split at hc
  .rename_i g ft sz hg hf
   have hx:g fr e'=qb e x:=qH hg hi
   cases hz:Nat.beq sz 0 with
   |true=>rw[hz]at hc;cases hc
   |false=>
    rw[hz,cond_false]at hc;cases hc
    rcases Gk hv with⟨k,o,ex,h⟩|⟨k,i,o,w,ex,h⟩
    .refine told (by simp) (λrc=>rfl) (ks:=[]) ?_ h
     show jY P st f (qb e x)=_;rw[<-hx,ex];simp only[jY,hf,hz];rfl
    .refine told (by simp) (λrc=>rfl) (ks:=[]) ?_ h
     show jY P st f (qb e x)=_;rw[<-hx,ex];simp only[jY,hf,hz];rfl
  .rename_i g fo ft sz hne hg hf
   have hx:g fr e'=qb e x:=qH hg hi
   cases hz:Nat.beq sz 0 with
   |true=>rw[hz]at hc;cases hc
   |false=>
    rw[hz,cond_false]at hc;cases hc
    rcases Gk hv with⟨k,o,ex,h⟩|⟨k,i,o,w,ex,h⟩
    .refine told (by simp) (λrc=>rfl) (ks:=[]) ?_ h
     show jY P st f (qb e x)=_;rw[<-hx,ex];simp only[jY,hf,hz];rfl
    .refine told (by simp) (λrc=>rfl) (ks:=[]) ?_ h
     show jY P st f (qb e x)=_;rw[<-hx,ex];simp only[jY,hf,hz];rfl
  .cases hc
 |indexAddr t x y=>
  unfold vk at hc;simp only at hc;split at hc
  .rename_i gx gy hgx hgy
   have hx:gx fr e'=qb e x:=qH hgx hi;have hy:gy fr e'=qb e y:=qH hgy hi;split at hc
   .rename_i n sz ha
    cases hc;obtain⟨kk,j,ey,h⟩:=XA hv;rcases Gk h with⟨k,o,ex,h⟩|⟨k,q,o,w,ex,h⟩<;>obtain⟨hb,h⟩:=zm h
    .refine told (by simp) (λrc=>rfl) (ks:=[]) ?_ h
     show jZ P t (qb e x) (qb e y)=_;rw[<-hx,ex,<-hy,ey];simp only[jZ,ha,hb];rfl
    .refine told (by simp) (λrc=>rfl) (ks:=[]) ?_ h
     show jZ P t (qb e x) (qb e y)=_;rw[<-hx,ex,<-hy,ey];simp only[jZ,ha,hb];rfl
   .split at hc
    .rename_i es ha
     cases hc;obtain⟨kk,j,ey,h⟩:=XA hv;rcases XB h with⟨k,lo,n,c,w,ex,h⟩|⟨k,lo,n,w,ex,h⟩|h
     .obtain⟨hb,h⟩:=zm h
      rw[jy]at hb;refine told (by simp) (λrc=>rfl) (ks:=[]) ?_ h;show jZ P t (qb e x) (qb e y)=_;rw[<-hx,ex,<-hy,ey];simp only[jZ,ha];rw[hb.1,hb.2];rfl
     .obtain⟨hb,h⟩:=zm h
      rw[jy]at hb;refine told (by simp) (λrc=>rfl) (ks:=[]) ?_ h;show jZ P t (qb e x) (qb e y)=_;rw[<-hx,ex,<-hy,ey];simp only[jZ,ha];rw[hb.1,hb.2];rfl
     .cases h
    .cases hc
  .cases hc
 |nilCheck x=>
  unfold vk at hc;simp only at hc;split at hc
  .rename_i g hg
   cases hc;have hx:g fr e'=qb e x:=qH hg hi;rcases Gk hv with⟨k,o,ex,h⟩|⟨k,i,o,w,ex,h⟩
   .exact told (by simp) (λrc=>rfl) (ks:=[]) (by show wD (qb e x)=_;rw[<-hx,ex];rfl) h
   .exact told (by simp) (λrc=>rfl) (ks:=[]) (by show wD (qb e x)=_;rw[<-hx,ex];rfl) h
  .cases hc
 |unOp o t x=>
  have gen: ∀{g:GV α},gv loc D m x=some g->some (⟨λfr e _ K=>qF (kUn P o (g.f fr e)).res K⟩:VC α)=some h->Told P e s (.unOp o t x) K v2 s2:=by
   intro g hg hc;cases hc;exact zl (λrc=>rfl) (by show kUn P o (qb e x)=_;rw[<-qH hg hi]) (XM (P:=P)) hv
  unfold vk at hc
  cases o with
  |not=>
   simp only at hc;split at hc
   .rename_i g hg
    cases hc;have hx:g fr e'=qb e x:=qH hg hi;obtain⟨b,ex,h⟩:=R0 hv;exact told (by simp) (λrc=>rfl) (ks:=[]) (by show kUn P .not (qb e x)=_;rw[<-hx,ex,JI];rfl) h
   .cases hc
  |_=>
   simp only at hc;split at hc
   .rename_i g hg;exact gen hg hc
   .cases hc
 |pick c x y=>
  unfold vk at hc;simp only at hc;split at hc
  .rename_i gx gy gc hgx hgy hgc
   cases hc;obtain⟨hx,nx⟩:=Sf hgx hi;obtain⟨hy,ny⟩:=Sf hgy hi;have hx:gx fr e'=qb e x:=hx;have hy:gy fr e'=qb e y:=hy;have hcc:gc fr e'=qb e c:=qH hgc hi;obtain⟨b,ec,h⟩:=R0 hv
   have hk:D0 (qb e c) (qb e x) (qb e y)= .val (@Bool.rec (λ_=>V) (qb e y) (qb e x) b) []:=by
    rw[<-hcc,ec];show @Bool.rec (λ_=>KR) _ _ (isU (qb e x)||isU (qb e y))=_;have ux:isU (qb e x)=false:=by cases hq:qb e x<;>first|rfl|exact absurd hq nx
    have uy:isU (qb e y)=false:=by cases hq:qb e y<;>first|rfl|exact absurd hq ny
    rw[ux,uy];rfl
   cases b with
   |true=>rw[hx]at h;exact told nx (λrc=>rfl) hk h
   |false=>rw[hy]at h;exact told ny (λrc=>rfl) hk h
  .split at hc
   .rename_i gx gy gc hgx hgy hgc
    cases hc;have hx:gx fr e'=qb e x:=qH hgx hi;have hy:gy fr e'=qb e y:=qH hgy hi;have hcc:gc fr e'=qb e c:=qH hgc hi;exact zl (λrc=>rfl) (by show D0 (qb e c) (qb e x) (qb e y)=_;rw[<-hx,<-hy,<-hcc]) PY hv
   .cases hc
 |convert st t x=>
  unfold vk at hc;simp only at hc;split at hc
  .rename_i g k us hg hk hs
   cases hc;have hx:g fr e'=qb e x:=qH hg hi;have hkc:wh P s.m st t (qb e x)=CZ P st t (qb e x):=by unfold wh;rw[hk]
   rcases IO hv with⟨kk,n,ex,h⟩|⟨hn,h⟩
   .have h:=Iw h
    refine told (by have:=(CC [] k n).1;intro e0;rw[e0]at this;cases this) (λrc=>rfl) (ks:=[]) ?_ h;show wh P s.m st t (qb e x)=_;rw[hkc,<-hx,ex];simp only[CZ,hk,hs];rfl
   .exact zl (λrc=>rfl) (by show wh P s.m st t (qb e x)=_;rw[hkc,<-hx]) K3 h
  .cases hc
 |extract x i=>
  unfold vk at hc;simp only at hc
  have hc2: ∀(q:NT),q=nthC i->(match gv loc D m x,q with|some ⟨x⟩,⟨g⟩=>some (⟨λfr e _ K=>qT (x fr e) λl=>g l K⟩:VC α)|none,_=>none)=some h->Told P e s (.extract x i) K v2 s2:=by
   intro q hq hc;obtain⟨g⟩:=q
   cases hgx:gv loc D m x with
   |none=>rw[hgx]at hc;cases hc
   |some gx=>
    obtain⟨gx⟩:=gx;rw[hgx]at hc;cases hc;have hx:gx fr e'=qb e x:=qH hgx hi;obtain⟨l,ex,h⟩:=q4e hv;have h:(nthC i).f l K= .ok v2 s2:=by rw[<-hq];exact h
    obtain⟨v,h1,h2,h3⟩:=Pj i h;refine told h2 (λrc=>rfl) (ks:=[]) ?_ h3;show Ak (qb e x) i=_;rw[<-hx,ex];simp only[Ak,nth,h1]
  exact hc2 _ rfl hc
 |field st x f=>
  unfold vk at hc;simp only at hc;split at hc
  .rename_i g hg
   cases hc;have hx:g fr e'=qb e x:=qH hg hi;exact zl (λrc=>rfl) (by show Cy P st f (qb e x)=_;rw[<-hx]) NI hv
  .cases hc
 |index t x y=>
  unfold vk at hc;simp only at hc;split at hc
  .rename_i gx gy hgx hgy
   cases hc;have hx:gx fr e'=qb e x:=qH hgx hi;have hy:gy fr e'=qb e y:=qH hgy hi;exact zl (λrc=>rfl) (by show Cz P t (qb e x) (qb e y)=_;rw[<-hx,<-hy]) NK hv
  .cases hc
 |build t ps=>
  unfold vk at hc;simp only at hc;split at hc
  .rename_i l hl
   cases hc;have hx:l fr e'=evs e (ps.toList.map (·.2)):=Bt hl hi;exact zl (λrc=>rfl) (by show Cw P t _ (evs e (ps.toList.map (·.2)))=_;rw[<-hx]) NH hv
  .cases hc
 |makeFunc fn fs cs=>
  unfold vk at hc;simp only at hc;split at hc
  .rename_i l hl
   cases hc;have hx:l fr e'=evs e cs.toList:=Bt hl hi;exact zl (λrc=>rfl) (by show Bf fn fs (evs e cs.toList)=_;rw[<-hx]) PW hv
  .cases hc
 |slice t x lo hi' mx=>
  cases mx with
  |some z=>unfold vk at hc;cases hc
  |none=>
   unfold vk at hc;simp only at hc;split at hc
   .rename_i g hg
    have hx:g fr e'=qb e x:=qH hg hi
    cases lo with
    |none=>cases hi' with
     |none=>
      cases hc;exact zl (λrc=>rfl) (by show vW P t (qb e x) none none=_;rw[<-hx]) CO hv
     |some r=>
      simp only at hc;split at hc
      .rename_i gl hgl
       cases hc;have hl:gl fr e'=qb e r:=qH hgl hi;exact zl (λrc=>rfl) (by show vW P t (qb e x) none (some (qb e r))=_;rw[<-hx,<-hl]) CO hv
      .cases hc
    |some l=>cases hi' with
     |none=>
      simp only at hc;split at hc
      .rename_i gl hgl
       cases hc;have hl:gl fr e'=qb e l:=qH hgl hi;exact zl (λrc=>rfl) (by show vW P t (qb e x) (some (qb e l)) none=_;rw[<-hx,<-hl]) CO hv
      .cases hc
     |some r=>
      simp only at hc;split at hc
      .rename_i gl gr hgl hgr
       cases hc;have hl:gl fr e'=qb e l:=qH hgl hi;have hr:gr fr e'=qb e r:=qH hgr hi;exact zl (λrc=>rfl) (by show vW P t (qb e x) (some (qb e l)) (some (qb e r))=_;rw[<-hx,<-hl,<-hr]) CO hv
      .cases hc
   .cases hc
 |call c=>
  obtain⟨cl,xs,ts⟩:=c;unfold vk at hc
  cases cl with
  |builtin b=>
   cases b with
   |len=>
    simp only at hc;split at hc
    .rename_i x t hxs hts
     have hop: ∀rc,zD rc P e s (.call {callee:= .builtin .len,args:=xs,argTypes:=ts})=ap s (kop P e s.m s.nx (.call {callee:= .builtin .len,args:=xs,argTypes:=ts})):=λrc=>rfl
     have hk:kop P e s.m s.nx (.call {callee:= .builtin .len,args:=xs,argTypes:=ts})=kLen P t (qb e x):=by
      show zj P .len ts.toList (evs e xs.toList) s.m s.nx=_;rw[hxs,hts];rfl
     split at hc
     .rename_i g hg
      have hx:g fr e'=qb e x:=qH hg hi
      cases hsl:jv P t with
      |true=>
       rw[hsl,cond_true]at hc;cases hc;rcases XB hv with⟨k,lo,n,c,w,ex,h⟩|⟨k,lo,n,w,ex,h⟩|h
       .exact told (by simp) hop (ks:=[]) (by rw[hk,<-hx,ex];simp only[kLen,hsl]) h
       .exact told (by simp) hop (ks:=[]) (by rw[hk,<-hx,ex];simp only[kLen,hsl]) h
       .exact zl hop (by rw[hk,<-hx]) NM h
      |false=>
       rw[hsl,cond_false]at hc;cases hc;exact zl hop (by rw[hk,<-hx]) NM hv
     .cases hc
    .cases hc
   |_=>cases hc
  |_=>cases hc
 |_=>unfold vk at hc;cases hc
end
end
noncomputable section
structure RcLe (pr:vE) (call:FuncId->Row->Nat->S->RO) (rc:FuncId->List V->S->RO):Prop where
 code: ∀f w n s v s',call f w n s= .ok v s'->n<=16/\((jF (rowL w n)).c0=w->(∀x∈rowL w n,x≠ .und)->v≠ .und/\rc f (rowL w n) s= .ok v s')
 prim: ∀f g,pr f=some g-> ∀vs s v s',g vs s= .ok v s'->rc f vs s= .ok v s'
section
variable {v2:V} {s2:S} {α γ:Type} {P:Program} {pr:vE} {rg:RG γ} {loc D:Nat} {m:Mp α} {fr:α} {e' e:Env16} {c:γ} {rc:FuncId->List V->S->RO}
theorem Ht: ∀{l:List V},l.length<=16->rowL (jF l).c0 l.length=l:=by
 intro l hl;apply List.ext_getElem?;intro i;unfold rowL;by_cases hi:i<l.length
 .rw[q59 hi]
  have hn: ∀j,(h:j<l.length)->l[j]?=some (nthV l j):=λj h=>by unfold nthV;rw[q53,q57 h];rfl
  rw[hn i hi];have hi16:i<16:=by omega
  match i,hi16 with
  |0,_=>rfl
  |1,_=>rfl
  |2,_=>rfl
  |3,_=>rfl
  |4,_=>rfl
  |5,_=>rfl
  |6,_=>rfl
  |7,_=>rfl
  |8,_=>rfl
  |9,_=>rfl
  |10,_=>rfl
  |11,_=>rfl
  |12,_=>rfl
  |13,_=>rfl
  |14,_=>rfl
  |15,_=>rfl
  |k+16,h=>omega
 .rw[q58 (by rw[q5g];omega),q58 (by omega)]
theorem Wa{xs:List Operand}{w:RW α}(h:Gp loc D m xs=some w)(hi:Inv loc D m fr e' e)(hn:xs.length<=16):rowL (w.f fr e') xs.length=evs e xs/\(jF (rowL (w.f fr e') xs.length)).c0=w.f fr e':=by
 match xs,h,hn with
 |[],h,_=>cases h;exact⟨rfl,rfl⟩
 |[a],h,_=>
  unfold Gp at h;simp only at h;split at h
  .rename_i ga hga
   cases h;have ha:ga fr e'=qb e a:=qH hga hi;refine⟨?_,rfl⟩;show[ga fr e']=[qb e a];rw[ha]
  .cases h
 |[a,b],h,_=>
  unfold Gp at h;simp only at h;split at h
  .rename_i ga gb hga hgb
   cases h;have ha:ga fr e'=qb e a:=qH hga hi;have hb:gb fr e'=qb e b:=qH hgb hi;refine⟨?_,rfl⟩;show[ga fr e',gb fr e']=[qb e a,qb e b];rw[ha,hb]
  .cases h
 |[a,b,d],h,_=>
  unfold Gp at h;simp only at h;split at h
  .rename_i ga gb gd hga hgb hgd
   cases h;have ha:ga fr e'=qb e a:=qH hga hi;have hb:gb fr e'=qb e b:=qH hgb hi;have hd:gd fr e'=qb e d:=qH hgd hi;refine⟨?_,rfl⟩;show[ga fr e',gb fr e',gd fr e']=[qb e a,qb e b,qb e d];rw[ha,hb,hd]
  .cases h
 |a::b::d::f::xr,h,hn=>
  unfold Gp at h;simp only at h;split at h
  .rename_i l hl
   cases h;have hx:l fr e'=evs e (a::b::d::f::xr):=Bt hl hi;have hlen:(evs e (a::b::d::f::xr)).length=(a::b::d::f::xr).length:=by simp[evs]
   show rowL (jF (l fr e')).c0 _=_/\(jF (rowL (jF (l fr e')).c0 _)).c0=(jF (l fr e')).c0;rw[hx,<-hlen];have:=Ht (l:=evs e (a::b::d::f::xr)) (by rw[hlen];exact hn);exact⟨this,by rw[this]⟩
  .cases h
theorem F0{xs:List Operand}(h: ∀x∈xs,qb e x≠ .und):AC (evs e xs)=true:=by
 unfold AC evs;rw[List.all_eq_true];intro v hv;obtain⟨x,hx,rfl⟩:=List.mem_map.1 hv;have:=h x hx;cases hq:qb e x<;>first|rfl|exact absurd hq this
theorem Kf{l:List V}(h:AC l=true): ∀v∈l,v≠ .und:=λv hv e=>by
 unfold AC at h;have:=List.all_eq_true.1 h v hv;rw[e]at this;cases this
theorem Uv{op:Op}{h:HK α}{s:S}(hc:A9 P loc D m op=some h)(hi:Inv loc D m fr e' e)(rc:FuncId->List V->S->RO):zD rc P e s op=ap s (h.f fr e' s):=by
 cases op with
 |buildSlice t n ps=>
  unfold A9 at hc;simp only at hc;split at hc
  .rename_i l hl
   cases hc;have hx:l fr e'=evs e (ps.toList.map (·.2)):=Bt hl hi;show ap s (z4 P t n _ (evs e (ps.toList.map (·.2))) s.nx)=ap s (z4 P t n _ (l fr e') s.nx);rw[hx]
  .cases hc
 |makeSlice t x y=>
  unfold A9 at hc;simp only at hc;split at hc
  .rename_i gx gy hgx hgy
   cases hc;have hx:gx fr e'=qb e x:=qH hgx hi;have hy:gy fr e'=qb e y:=qH hgy hi;show ap s (zy P t (qb e x) (qb e y) s.nx)=ap s (zy P t (gx fr e') (gy fr e') s.nx);rw[hx,hy]
  .cases hc
 |makeMap t r=>
  cases r with
  |none=>cases hc;rfl
  |some z=>cases hc
 |lookup t x y b=>
  unfold A9 at hc;simp only at hc;split at hc
  .rename_i gx gy hgx hgy
   cases hc;have hx:gx fr e'=qb e x:=qH hgx hi;have hy:gy fr e'=qb e y:=qH hgy hi;show ap s (vC P s.m t b (qb e x) (qb e y))=ap s (vC P s.m t b (gx fr e') (gy fr e'));rw[hx,hy]
  .cases hc
 |mapUpdate t x y z=>
  unfold A9 at hc;simp only at hc;split at hc
  .rename_i gx gy gz hgx hgy hgz
   cases hc;have hx:gx fr e'=qb e x:=qH hgx hi;have hy:gy fr e'=qb e y:=qH hgy hi;have hz:gz fr e'=qb e z:=qH hgz hi;show ap s (Ff P s.m t (qb e x) (qb e y) (qb e z))=ap s (Ff P s.m t (gx fr e') (gy fr e') (gz fr e'));rw[hx,hy,hz]
  .cases hc
 |mapEntry t x y=>
  unfold A9 at hc;simp only at hc;split at hc
  .rename_i gx gy hgx hgy
   cases hc;have hx:gx fr e'=qb e x:=qH hgx hi;have hy:gy fr e'=qb e y:=qH hgy hi;show ap s (Bx P s.m t (qb e x) (qb e y))=ap s (Bx P s.m t (gx fr e') (gy fr e'));rw[hx,hy]
  .cases hc
 |entryStore t x y z=>
  unfold A9 at hc;simp only at hc;split at hc
  .rename_i gx gy gz hgx hgy hgz
   cases hc;have hx:gx fr e'=qb e x:=qH hgx hi;have hy:gy fr e'=qb e y:=qH hgy hi;have hz:gz fr e'=qb e z:=qH hgz hi;show ap s (wX s.m (qb e x) (qb e y) (qb e z))=ap s (wX s.m (gx fr e') (gy fr e') (gz fr e'));rw[hx,hy,hz]
  .cases hc
 |convert st t x=>
  unfold A9 at hc;simp only at hc;split at hc
  .rename_i gx hgx
   cases hc;have hx:gx fr e'=qb e x:=qH hgx hi;show ap s (wh P s.m st t (qb e x))=ap s (wh P s.m st t (gx fr e'));rw[hx]
  .cases hc
 |call cc=>
  obtain⟨cl,xs,ts⟩:=cc;unfold A9 at hc
  cases cl with
  |builtin b=>
   simp only at hc;split at hc
   .rename_i l hl
    have hx:l fr e'=evs e xs.toList:=Bt hl hi
    have gen:some (⟨λfr e s=>zj P b ts.toList (l fr e) s.m s.nx⟩:HK α)=some h->zD rc P e s (.call {callee:= .builtin b,args:=xs,argTypes:=ts})=ap s (h.f fr e' s):=by
     intro hc;cases hc;show ap s (zj P b ts.toList (evs e xs.toList) s.m s.nx)=ap s (zj P b ts.toList (l fr e') s.m s.nx);rw[hx]
    cases b with
    |append=>
     simp only at hc;split at hc
     .rename_i t u x y hts hxs
      split at hc
      .rename_i gx gy hgx hgy
       cases hc;have hx:gx fr e'=qb e x:=qH hgx hi;have hy:gy fr e'=qb e y:=qH hgy hi;show ap s (zj P .append ts.toList (evs e xs.toList) s.m s.nx)=ap s (DD P t u s.m (gx fr e') (gy fr e') s.nx);rw[hts,hxs,hx,hy];rfl
      .cases hc
     .cases hc
    |_=>exact gen hc
   .cases hc
  |_=>cases hc
 |_=>unfold A9 at hc;cases hc
theorem Mg{op:Op}{h:OC γ α}{s:S}{K:V->S->RO}(hr:RcLe pr (rg.f c) rc)(hc:Lp P pr rg loc D m op=some h)(hi:Inv loc D m fr e' e)(hv:h.f c fr e' s K= .ok v2 s2):
  ∃v s1,v≠ .und/\zD rc P e s op= .ok v s1/\K v s1= .ok v2 s2:=by
 have hc:I5 P pr rg loc D m op=some h:=by
  have:Lp P pr rg loc D m op=Mf.1 P pr rg loc D m op:=rfl;rw[this,Mf.2]at hc;exact hc
 have other:(match A9 P loc D m op with|some ⟨h⟩=>some (⟨λ_ fr e s K=>roK (ap s (h fr e s)) λv s=>qF v λv=>K v s⟩:OC γ α)|none=>none)=some h-> ∃v s1,v≠ .und/\zD rc P e s op= .ok v s1/\K v s1= .ok v2 s2:=by
  intro hc;split at hc
  .rename_i g hg
   cases hc;obtain⟨v,s1,h1,h2⟩:=DS hv;obtain⟨h3,h4⟩:=wS h2;exact⟨v,s1,h3,by rw[Uv hg hi rc];exact h1,h4⟩
  .cases hc
 unfold I5 at hc
 cases op with
 |store t x y=>
  simp only at hc;split at hc
  .rename_i gx gy g sz hgx hgy hs
   cases hc;have hx:gx fr e'=qb e x:=qH hgx hi;have hy:gy fr e'=qb e y:=qH hgy hi;obtain⟨s1,h1,h2⟩:=TR (p:=gx fr e') (x:=gy fr e') hs hv;rw[hx,hy]at h1;exact⟨_,s1,by simp,h1,h2⟩
  .cases hc
 |alloc t=>
  simp only at hc;obtain⟨h1,h2⟩:=OR hc;cases h2;obtain⟨s1,h3,h4⟩:=Ph hv;refine⟨_,s1,by simp,?_,h4⟩;show ap s (Cv P t s.nx)=_;unfold Cv;have:isU (wb P t)=false:=by cases hq:wb P t<;>first|rfl|exact absurd hq h1
  rw[this];exact h3
 |box t x=>
  simp only at hc;split at hc
  .rename_i g hg
   cases hc;have hx:g fr e'=qb e x:=qH hg hi;obtain⟨h1,h2⟩:=R3 hv;obtain⟨s1,h3,h4⟩:=Ph h2;rw[hx]at h1 h3;refine⟨_,s1,by simp,?_,h4⟩;show ap s (kBox s.nx (qb e x))=_;unfold kBox;rw[h1];exact h3
  .cases hc
 |call cc=>
  obtain⟨cl,xs,ts⟩:=cc
  cases cl with
  |builtin b=>exact other hc
  |value f=>
   clear other;obtain⟨r0⟩:=rg
   have dyn: ∀{gf:GV α}{l:VL α}{d:CD α}{r:γ->FuncId->Row->Nat->S->RO},gv loc D m f=some gf->gvs loc D m xs.toList=some l->dfs loc D m xs.toList=some d->r0=r->
     (@Option.rec (FuncId×List (Key×Nat)) (λ_=>RO) (.no [4]) (λp=>d.f fr e' (roK ((λvs=>r c p.1 (jF vs).c0 vs.length s) (l.f fr e'++p.2.map λp=> .pp p.1 p.2)) K)) (zf (gf.f fr e'))= .ok v2 s2)->
     ∃v s1,v≠ .und/\zD rc P e s (.call {callee:= .value f,args:=xs,argTypes:=ts})= .ok v s1/\K v s1= .ok v2 s2:=by
    intro gf l d r hgf hl hd hrg hv;have hf:=qH hgf hi;have hx:=Bt hl hi
    cases hcal:zf (gf.f fr e')with
    |none=>rw[hcal]at hv;cases hv
    |some p=>
     rw[hcal]at hv;obtain⟨g,ps⟩:=p;obtain⟨h1,h2⟩:=Dy hd hi hv;obtain⟨v,s1,h3,h4⟩:=DS h2;subst hrg;obtain⟨h5,h7⟩:=hr.code _ _ _ _ _ _ h3;rw[hx]at h5 h7;have hao:=F0 h1;rw[Ht h5]at h7
     obtain⟨h6,h7⟩:=h7 rfl λx hx=>by
      rcases q5i.1 hx with hx|hx
      .exact Kf hao x hx
      .obtain⟨q,_,rfl⟩:=List.mem_map.1 hx;simp
     refine⟨v,s1,h6,?_,h4⟩;show kcall rc s (zf (qb e f)) (evs e xs.toList)=_;rw[<-hf,hcal];show @Bool.rec (λ_=>RO) _ _ (AC (evs e xs.toList))=_;rw[hao];exact h7
   cases f with
   |func g=>
    simp only at hc;have hcal:zf (qb e (.func g))=some (g,[]):=rfl;split at hc
    .rename_i h0 hp
     split at hc
     .rename_i l d hl hd
      cases hc;have hx:l fr e'=evs e xs.toList:=Bt hl hi;obtain⟨h1,h2⟩:=Dy hd hi hv;obtain⟨v,s1,h3,h4⟩:=DS h2;obtain⟨h5,h6⟩:=wS h4;refine⟨v,s1,h5,?_,h6⟩;show kcall rc s (zf (qb e (.func g))) (evs e xs.toList)=_;rw[hcal];show @Bool.rec (λ_=>RO) _ (rc g (evs e xs.toList++[]) s) (AC (evs e xs.toList))=_;rw[F0 h1,List.append_nil];rw[hx]at h3;exact hr.prim g h0 hp _ _ _ _ h3
     .cases hc
    .split at hc
     .rename_i w d r hw hd hrg
      cases hrg;cases hc;obtain⟨h1,h2⟩:=Dy hd hi hv;obtain⟨v,s1,h3,h4⟩:=DS h2;obtain⟨h5,h7⟩:=hr.code _ _ _ _ _ _ h3
      have hrow:rowL (w fr e') xs.size=evs e xs.toList/\(jF (rowL (w fr e') xs.size)).c0=w fr e':=by
       have:=Wa hw hi (by simpa using h5);simpa using this
      have hao:=F0 h1;obtain⟨h6,h7⟩:=h7 hrow.2 (by rw[hrow.1];exact Kf hao);rw[hrow.1]at h7;refine⟨v,s1,h6,?_,h4⟩;show kcall rc s (zf (qb e (.func g))) (evs e xs.toList)=_;rw[hcal];show @Bool.rec (λ_=>RO) _ (rc g (evs e xs.toList++[]) s) (AC (evs e xs.toList))=_;rw[hao,List.append_nil];exact h7
     .cases hc
   |tmp t=>
    simp only at hc;split at hc
    .rename_i gf l d r hgf hl hd hrg
     cases hrg;cases hc;exact dyn hgf hl hd rfl hv
    .cases hc
   |const t=>
    simp only at hc;split at hc
    .rename_i gf l d r hgf hl hd hrg
     cases hrg;cases hc;exact dyn hgf hl hd rfl hv
    .cases hc
   |global t=>
    simp only at hc;split at hc
    .rename_i gf l d r hgf hl hd hrg
     cases hrg;cases hc;exact dyn hgf hl hd rfl hv
    .cases hc
  |_=>exact other hc
 |_=>exact other hc
end
end
noncomputable section
section
variable {v2:V} {s2:S} {α γ:Type} {P:Program} {pr:vE} {rg:RG γ} {loc D:Nat} {m:Mp α} {fr:α} {e' e:Env16} {c:γ} {rc:FuncId->List V->S->RO}
theorem Mv(t:Nat): ∀m:Mp α,vp t (upM m)=(vp t m).map Src.up
 |[]=>rfl
 |p::r=>by
  show(bif Nat.beq p.1 t then some p.2.up else vp t (upM r))=Option.map Src.up (bif Nat.beq p.1 t then some p.2 else vp t r)
  cases Nat.beq p.1 t with
  |true=>rfl
  |false=>exact Mv t r
theorem AE(t t':Nat)(x:Src α)(m:Mp α):vp t ((t',x)::m)=bif Nat.beq t' t then some x else vp t m:=rfl
theorem j9{t:Tmp}(ht:t<512)(v:V)(t':Nat):slot (jb e (some t) v) t'=if t'=t then v else slot e t':=CJ v ht t'
theorem SrcOk.up{t:Nat}{x:Src α}{v:V}(h:SrcOk loc fr e' e t x):SrcOk loc (⟨v,fr⟩:Fm α) e' e t x.up:=by
 cases x with
 |c u=>exact h
 |g d n f=>exact h
 |dead=>trivial
theorem SrcOk.env{t t0:Nat}{x:Src α}{v:V}{e1:Env16}(he:slot e1 t=slot e t)(h:SrcOk loc fr e' e t x):SrcOk loc fr e' e1 t x:=by
 cases x with
 |c u=>exact⟨he.trans h.1,h.2⟩
 |g d n f=>exact⟨λhd=>by rw[he];exact h.1 hd,λe'' h1=>by rw[he];exact h.2.1 e'' h1,h.2.2⟩
 |dead=>trivial
theorem OY{t:Tmp}{v:V}(hi:Inv loc D m fr e' e)(ht:t<512)(hl:Nat.testBit loc t=true)(hv:v≠ .und):
  Inv loc D ((t,.g true 0 λfr _=>fr.v)::upM m) (⟨v,fr⟩:Fm α) e' (jb e (some t) v):=by
 refine⟨λt' h=>?_,λt' x hx=>?_,λt' h=>?_⟩
 .rw[j9 ht]
  by_cases e:t'=t
  .rw[e,hl]at h;cases h
  .rw[if_neg e];exact hi.ag t' h
 .rw[AE]at hx
  cases hb:Nat.beq t t' with
  |true=>
   rw[hb,cond_true]at hx;have:=q5C hb;subst this;cases hx;have e1:slot (jb e (some t) v) t=v:=by rw[j9 ht,if_pos rfl]
   exact⟨hl,λ_=>by rw[e1];exact hv,λe'' _=>e1.symm,λt' h=>by cases h⟩
  |false=>
   rw[hb,cond_false,Mv]at hx
   cases hf:vp t' m with
   |none=>rw[hf]at hx;cases hx
   |some y=>
    rw[hf]at hx;cases hx
    obtain⟨h1,h2⟩:=hi.mp t' y hf;have hne: ¬t'=t:=λe=>by rw[e]at hb;simp at hb
    exact⟨h1,(h2.env (t0:=0) (v:=v) (by rw[j9 ht,if_neg hne])).up⟩
 .rw[j9 ht]
  by_cases e:t'=t
  .rw[if_pos e];exact hv
  .rw[if_neg e];exact hi.df t' h
theorem Fd{t:Tmp}{v:V}{x:Src α}(hi:Inv loc D m fr e' e)(ht:t<512)(hl:Nat.testBit loc t=true)(hv:v≠ .und)(hx:SrcOk loc fr e' (jb e (some t) v) t x):
  Inv loc D ((t,x)::m) fr e' (jb e (some t) v):=by
 refine⟨λt' h=>?_,λt' y hy=>?_,λt' h=>?_⟩
 .rw[j9 ht]
  by_cases e:t'=t
  .rw[e,hl]at h;cases h
  .rw[if_neg e];exact hi.ag t' h
 .rw[AE]at hy
  cases hb:Nat.beq t t' with
  |true=>
   rw[hb,cond_true]at hy;have:=q5C hb;subst this;cases hy;exact⟨hl,hx⟩
  |false=>
   rw[hb,cond_false]at hy;obtain⟨h1,h2⟩:=hi.mp t' y hy;have hne: ¬t'=t:=λe=>by rw[e]at hb;simp at hb
   exact⟨h1,h2.env (t0:=0) (v:=v) (by rw[j9 ht,if_neg hne])⟩
 .rw[j9 ht]
  by_cases e:t'=t
  .rw[if_pos e];exact hv
  .rw[if_neg e];exact hi.df t' h
theorem If{t0 t:Nat}{x:Src α}: ∀{m:Mp α},vp t (zJ t0 m)=some x->x= .dead\/(vp t m=some x/\ ∀d n f,x= .g d n f->n≠t0+1)
 |[],h=>by cases h
 |(q,y)::r,h=>by
  have h:(bif Nat.beq q t then some (Ql t0 y)else vp t (zJ t0 r))=some x:=h;rw[AE]
  cases hb:Nat.beq q t with
  |true=>
   rw[hb,cond_true]at h;have h:=Option.some.inj h;subst h
   cases y with
   |c v=>exact .inr ⟨rfl,λd n f e=>by cases e⟩
   |dead=>exact .inl rfl
   |g d n f=>
    show(bif Nat.beq n (t0+1)then Src.dead else .g d n f)= .dead\/(_=some (bif Nat.beq n (t0+1)then Src.dead else .g d n f)/\ ∀d' n' f',(bif Nat.beq n (t0+1)then Src.dead else .g d n f)= .g d' n' f'->n'≠t0+1)
    cases hn:Nat.beq n (t0+1)with
    |true=>exact .inl rfl
    |false=>exact .inr ⟨rfl,λd' n' f' e=>by cases e;intro e2;rw[e2]at hn;simp at hn⟩
  |false=>
   rw[hb,cond_false]at h;exact If h
theorem C9{t:Tmp}{v:V}(hi:Inv loc D m fr e' e)(ht:t<512)(hl:Nat.testBit loc t=false)(hv:v≠ .und):
  Inv loc (D|||2^t) (zJ t m) fr ((sT t).f v e') (jb e (some t) v):=by
 have hs: ∀t',slot ((sT t).f v e') t'=if t'=t then v else slot e' t':=λt'=>by rw[q4o];exact CJ v ht t'
 refine⟨λt' h=>?_,λt' x hx=>?_,λt' h=>?_⟩
 .rw[hs,j9 ht]
  by_cases e:t'=t
  .rw[if_pos e,if_pos e]
  .rw[if_neg e,if_neg e];exact hi.ag t' h
 .rcases If hx with rfl|⟨hx,hn⟩
  .refine⟨?_,trivial⟩
   --its name is still local
   have: ∀m:Mp α,(∀y,vp t' m=some y->Nat.testBit loc t'=true)-> ∀y,vp t' (zJ t m)=some y->Nat.testBit loc t'=true:=by
    intro m
    induction m with
    |nil=>intro _ y h;cases h
    |cons p r ih=>
     intro hm y h;obtain⟨q,z⟩:=p;have h:(bif Nat.beq q t' then some (Ql t z)else vp t' (zJ t r))=some y:=h
     cases hb:Nat.beq q t' with
     |true=>exact hm z (by rw[AE,hb];rfl)
     |false=>
      rw[hb,cond_false]at h;exact ih (λy hy=>hm y (by rw[AE,hb];exact hy)) y h
   exact this m (λy hy=>(hi.mp t' y hy).1) _ hx
  .obtain⟨h1,h2⟩:=hi.mp t' x hx
   have hne: ¬t'=t:=λe=>by rw[e,hl]at h1;cases h1
   have he:slot (jb e (some t) v) t'=slot e t':=by rw[j9 ht,if_neg hne]
   refine⟨h1,?_⟩
   cases x with
   |c u=>exact⟨he.trans h2.1,h2.2⟩
   |dead=>trivial
   |g d n f=>
    refine⟨λhd=>by rw[he];exact h2.1 hd,λe'' h3=>?_,h2.2.2⟩;rw[he];refine h2.2.1 e'' λq hq=>?_
    rw[h3 q hq,hs,if_neg];intro e;subst e;exact hn d n f rfl hq
 .rw[j9 ht]
  by_cases e:t'=t
  .rw[if_pos e];exact hv
  .rw[if_neg e]
   refine hi.df t' ?_;rw[Nat.testBit_or,Nat.testBit_two_pow,Bool.or_eq_true]at h;rcases h with h|h
   .exact h
   .exact absurd (of_decide_eq_true h).symm e
def Cont(k:Kont γ α)(loc:Nat)(fr:α)(c:γ)(e1:Env16)(s1:S)(v2:V)(s2:S):Prop:=
 ∃(β:Type)(p:β->α)(mβ:Mp β)(Dβ:Nat)(fb:β)(eb:Env16),p fb=fr/\Inv loc Dβ mβ fb eb e1/\(k β p mβ Dβ).f c fb eb s1= .ok v2 s2
theorem OP{k:Kont γ α}{dst:Option Tmp}{h:VC α}{s:S}(hd: ∀t,dst=some t->t<512)(hi:Inv loc D m fr e' e)(hf:(finV loc D m k dst h).f c fr e' s= .ok v2 s2):
  ∃K,h.f fr e' s K= .ok v2 s2/\ ∀v,v≠ .und->K v= .ok v2 s2->Cont k loc fr c (jb e dst v) s v2 s2:=by
 have hf:(Lu loc D m k dst h).f c fr e' s= .ok v2 s2:=by
  have:finV loc D m k dst h=Qr.1 loc D m k dst h:=rfl;rw[this,Qr.2]at hf;exact hf
 obtain⟨h⟩:=h;unfold Lu at hf
 cases dst with
 |none=>
  simp only at hf;generalize hk:k α id m D=q at hf;obtain⟨K⟩:=q;exact⟨_,hf,λv hv hK=>⟨α,id,m,D,fr,e',rfl,hi,by rw[hk];exact hK⟩⟩
 |some t=>
  simp only at hf
  cases hl:Nat.testBit loc t with
  |true=>
   rw[hl,cond_true]at hf;generalize hk:k (Fm α) (λf=>f.r) ((t,.g true 0 λfr _=>fr.v)::upM m) D=q at hf;obtain⟨K⟩:=q;exact⟨_,hf,λv hv hK=>⟨Fm α,λf=>f.r,_,D,⟨v,fr⟩,e',rfl,OY hi (hd t rfl) hl hv,by rw[hk];exact hK⟩⟩
  |false=>
   rw[hl,cond_false]at hf;generalize hk:k α id (zJ t m) (D|||2^t)=q at hf;generalize hs:sT t=st at hf;obtain⟨K⟩:=q;obtain⟨st⟩:=st;refine⟨_,hf,λv hv hK=>⟨α,id,_,_,fr,st v e',rfl,?_,by rw[hk];exact hK⟩⟩;have:=C9 (v:=v) hi (hd t rfl) hl hv;rw[hs]at this;exact this
theorem Jk{k:Kont γ α}{dst:Option Tmp}{h:OC γ α}{s:S}(hd: ∀t,dst=some t->t<512)(hi:Inv loc D m fr e' e)(hf:(finO loc D m k dst h).f c fr e' s= .ok v2 s2):
  ∃K,h.f c fr e' s K= .ok v2 s2/\ ∀v s1,v≠ .und->K v s1= .ok v2 s2->Cont k loc fr c (jb e dst v) s1 v2 s2:=by
 have hf:(Lt loc D m k dst h).f c fr e' s= .ok v2 s2:=by
  have:finO loc D m k dst h=Qq.1 loc D m k dst h:=rfl;rw[this,Qq.2]at hf;exact hf
 obtain⟨h⟩:=h;unfold Lt at hf
 cases dst with
 |none=>
  simp only at hf;generalize hk:k α id m D=q at hf;obtain⟨K⟩:=q;exact⟨_,hf,λv s1 hv hK=>⟨α,id,m,D,fr,e',rfl,hi,by rw[hk];exact hK⟩⟩
 |some t=>
  simp only at hf
  cases hl:Nat.testBit loc t with
  |true=>
   rw[hl,cond_true]at hf;generalize hk:k (Fm α) (λf=>f.r) ((t,.g true 0 λfr _=>fr.v)::upM m) D=q at hf;obtain⟨K⟩:=q;exact⟨_,hf,λv s1 hv hK=>⟨Fm α,λf=>f.r,_,D,⟨v,fr⟩,e',rfl,OY hi (hd t rfl) hl hv,by rw[hk];exact hK⟩⟩
  |false=>
   rw[hl,cond_false]at hf;generalize hk:k α id (zJ t m) (D|||2^t)=q at hf;generalize hs:sT t=st at hf;obtain⟨K⟩:=q;obtain⟨st⟩:=st;refine⟨_,hf,λv s1 hv hK=>⟨α,id,_,_,fr,st v e',rfl,?_,by rw[hk];exact hK⟩⟩;have:=C9 (v:=v) hi (hd t rfl) hl hv;rw[hs]at this;exact this
theorem Yr{k:Kont γ α}{dst:Option Tmp}{x:Operand}{y:Src α}{s:S}(hd: ∀t,dst=some t->t<512)(hi:Inv loc D m fr e' e)(hs:src loc D m x=some y)(hf:(finM loc D m k dst y).f c fr e' s= .ok v2 s2):
  qb e x≠ .und/\Cont k loc fr c (jb e dst (qb e x)) s v2 s2:=by
 have hf:(Ls loc D m k dst y).f c fr e' s= .ok v2 s2:=by
  have:finM loc D m k dst y=Qp.1 loc D m k dst y:=rfl;rw[this,Qp.2]at hf;exact hf
 have ho:=A7 hs hi;unfold Ls at hf
 cases dst with
 |none=>
  cases y with
  |g d n f=>cases d<;>cases hf
  |_=>cases hf
 |some t=>
  have ht:=hd t rfl;have e1: ∀v,slot (jb e (some t) v) t=v:=λv=>by rw[j9 ht,if_pos rfl]
  cases y with
  |dead=>cases hf
  |c v=>
   obtain⟨h1,h2⟩:=ho.1 v rfl;rw[h1];refine⟨h2,?_⟩;simp only at hf
   cases hl:Nat.testBit loc t with
   |true=>
    rw[hl,cond_true]at hf;exact⟨α,id,_,D,fr,e',rfl,Fd (x:= .c v) hi ht hl h2 ⟨e1 v,h2⟩,hf⟩
   |false=>
    rw[hl,cond_false]at hf;generalize hk:k α id (zJ t m) (D|||2^t)=q at hf;generalize hst:sT t=st at hf;obtain⟨K⟩:=q;obtain⟨st⟩:=st;have:=C9 (v:=v) hi ht hl h2;rw[hst]at this;exact⟨α,id,_,_,fr,st v e',rfl,this,by rw[hk];exact hf⟩
  |g d n f=>
   obtain⟨h1,h2,h3,h4⟩:=ho.2 d n f rfl;have alias:qb e x≠ .und->SrcOk loc fr e' (jb e (some t) (qb e x)) t (.g true n f):=λhn=>⟨λ_=>by rw[e1];exact hn,λe'' h=>by rw[e1];exact h3 e'' h,h4⟩
   cases d with
   |true=>
    have hn:=h2 rfl;refine⟨hn,?_⟩;simp only at hf
    cases hl:Nat.testBit loc t with
    |true=>
     rw[hl,cond_true]at hf;exact⟨α,id,_,D,fr,e',rfl,Fd hi ht hl hn (alias hn),hf⟩
    |false=>
     rw[hl,cond_false]at hf;generalize hk:k α id (zJ t m) (D|||2^t)=q at hf;generalize hst:sT t=st at hf;obtain⟨K⟩:=q;obtain⟨st⟩:=st;have:=C9 (v:=qb e x) hi ht hl hn;rw[hst]at this;have hf:K c fr (st (f fr e') e') s= .ok v2 s2:=hf;rw[h1]at hf;exact⟨α,id,_,_,fr,st (qb e x) e',rfl,this,by rw[hk];exact hf⟩
   |false=>
    simp only at hf
    cases hl:Nat.testBit loc t with
    |true=>
     rw[hl,cond_true]at hf;generalize hk:k α id ((t,.g true n f)::m) D=q at hf;obtain⟨K⟩:=q;obtain⟨hn,hf⟩:=Xz (show qD (f fr e') _= .ok v2 s2 from hf);rw[h1]at hn;exact⟨hn,α,id,_,D,fr,e',rfl,Fd hi ht hl hn (alias hn),by rw[hk];exact hf⟩
    |false=>
     rw[hl,cond_false]at hf;generalize hk:k α id (zJ t m) (D|||2^t)=q at hf;generalize hst:sT t=st at hf;obtain⟨K⟩:=q;obtain⟨st⟩:=st;obtain⟨hn,hf⟩:=wS (show qF (f fr e') (λv=>K c fr (st v e') s)= .ok v2 s2 from hf);rw[h1]at hn hf;have:=C9 (v:=qb e x) hi ht hl hn;rw[hst]at this;exact⟨hn,α,id,_,_,fr,st (qb e x) e',rfl,this,by rw[hk];exact hf⟩
theorem Km{k:Kont γ α}{o:Oper}{s:S}(hr:RcLe pr (rg.f c) rc)(hd: ∀t,o.dst=some t->t<512)(hi:Inv loc D m fr e' e)(hf:(I6 P pr rg loc D m k o).f c fr e' s= .ok v2 s2):
  ∃v s1,v≠ .und/\zD rc P e s o.op= .ok v s1/\Cont k loc fr c (jb e o.dst v) s1 v2 s2:=by
 unfold I6 at hf
 have mv: ∀{x:Operand}{y:Src α},src loc D m x=some y->(o.op= .move x\/o.op= .assign x)->(finM loc D m k o.dst y).f c fr e' s= .ok v2 s2-> ∃v s1,v≠ .und/\zD rc P e s o.op= .ok v s1/\Cont k loc fr c (jb e o.dst v) s1 v2 s2:=by
  intro x y hs hop hf;obtain⟨h1,h2⟩:=Yr hd hi hs hf;refine⟨_,s,h1,?_,h2⟩
  have hk:ap s (Bg (qb e x))= .ok (qb e x) s:=by
   unfold Bg;have:isU (qb e x)=false:=by cases hq:qb e x<;>first|rfl|exact absurd hq h1
   rw[this];rfl
  rcases hop with h|h<;>rw[h]<;>exact hk
 split at hf
 .rename_i y hy
  split at hy
  .rename_i x hop;exact mv hy (.inl hop) hf
  .rename_i x hop;exact mv hy (.inr hop) hf
  .cases hy
 .split at hf
  .rename_i h hc
   obtain⟨K,h1,h2⟩:=OP hd hi hf;obtain⟨v,h3,h4,h5⟩:=Uy hc hi h1;exact⟨v,s,h3,h4 rc,h2 v h3 h5⟩
  .split at hf
   .rename_i h hc
    obtain⟨K,h1,h2⟩:=Jk hd hi hf;obtain⟨v,s1,h3,h4,h5⟩:=Mg hr hc hi h1;exact⟨v,s1,h3,h4,h2 v s1 h3 h5⟩
   .cases hf
def StepR(rc:FuncId->List V->S->RO)(P:Program)(all:List Oper)(o:Oper)(e:Env16)(s:S)(e1:Env16)(s1:S):Prop:=
 (jd all e o.guard=some false/\e1=jb e o.dst (.tu [])/\s1=s)\/(jd all e o.guard=some true/\ ∃v,v≠ .und/\zD rc P e s o.op= .ok v s1/\e1=jb e o.dst v)
theorem Ii {all : List Oper} {o : Oper} {run skip : CF γ α} {s : S} (hd : ∀ t, o.dst = some t -> t < 512) (hi : Inv loc D m fr e' e) (hf : (gdC loc D m all o run skip).f c fr e' s = .ok v2 s2) :
  (jd all e o.guard = some true /\ run.f c fr e' s = .ok v2 s2) \/
   (jd all e o.guard = some false /\ ∃ e1', Inv loc (skD D o.dst) (skM m o.dst) fr e1' (jb e o.dst (.tu [])) /\ skip.f c fr e1' s = .ok v2 s2) := by
 have hf : (gdC0 loc D m all o run skip).f c fr e' s = .ok v2 s2 := by
  have : gdC loc D m all o run skip = gdCP.1 loc D m all o run skip := rfl;rw [this, gdCP.2] at hf; exact hf
 unfold gdC0 at hf
 cases hg : o.guard with
 | none => rw [hg] at hf; exact .inl ⟨rfl, hf⟩
 | some jw =>
  obtain ⟨j, w⟩ := jw;rw [hg] at hf;simp only at hf;split at hf
  .rename_i t ht
   split at hf
   .rename_i g hgv
    have hx : g fr e' = slot e t := qH hgv hi
    have hgk : ∀ b, slot e t = .bb b -> jd all e (some (j, w)) = some (@Bool.rec (λ_ => Bool) (!b) b w) := λb hb => by
     unfold jd; simp only; rw [ht]; simp only; rw [hb]
    have hgt : slot e t = .tu [] -> jd all e (some (j, w)) = some false := λhb => by
     unfold jd; simp only; rw [ht]; simp only; rw [hb]
    have main : ∀ (A B : RO), qG (g fr e') (λb => @Bool.rec (λ_ => RO) A B (@Bool.rec (λ_ => Bool) (notB b) b w)) A = .ok v2 s2 ->
      (jd all e (some (j, w)) = some true /\ B = .ok v2 s2) \/ (jd all e (some (j, w)) = some false /\ A = .ok v2 s2) := by
     intro A B h;rcases q4d h with ⟨b, eb, h⟩ | ⟨eb, h⟩
     .rw [hx] at eb
      rw [hgk b eb];rw [JI] at h
      cases hw : (@Bool.rec (λ_ => Bool) (!b) b w) with
      | true => rw [hw] at h; exact .inl ⟨rfl, h⟩
      | false => rw [hw] at h; exact .inr ⟨rfl, h⟩
     .rw [hx] at eb
      exact .inr ⟨hgt eb, h⟩
    split at hf
    .rename_i d hdst
     cases hl : Nat.testBit loc d with
     | true => rw [hl, cond_true] at hf; cases hf
     | false =>
      rw [hl, cond_false] at hf;generalize hst : sT d = st at hf;obtain ⟨st⟩ := st;rcases main _ _ hf with h | ⟨h1, h2⟩
      .exact .inl h
      .refine .inr ⟨h1, st (.tu []) e', ?_, h2⟩
       rw [hdst];have := C9 (v := .tu []) hi (hd d hdst) hl (by simp);rw [hst] at this; exact this
    .rename_i hdst
     rcases main _ _ hf with h | ⟨h1, h2⟩
     .exact .inl h
     .refine .inr ⟨h1, e', ?_, h2⟩
      rw [hdst]; exact hi
   .cases hf
  .cases hf
theorem Uu{k:Kont γ α}{all:List Oper}{o:Oper}{s:S}(hr:RcLe pr (rg.f c) rc)(hd: ∀t,o.dst=some t->t<512)(hi:Inv loc D m fr e' e)(hf:(I3 P pr rg loc D m k all o).f c fr e' s= .ok v2 s2):
  ∃e1 s1,StepR rc P all o e s e1 s1/\Cont k loc fr c e1 s1 v2 s2:=by
 unfold I3 at hf;rcases Ii hd hi hf with⟨h1,h2⟩|⟨h1,e1',h2,h3⟩
 .obtain⟨v,s1,h3,h4,h5⟩:=Km hr hd hi h2
  exact⟨_,s1,.inr ⟨h1,v,h3,h4,rfl⟩,h5⟩
 .exact⟨_,s,.inl ⟨h1,rfl,rfl⟩,α,id,_,_,fr,e1',rfl,h2,h3⟩
def StepR1(rc:FuncId->List V->S->RO)(P:Program)(all:List Oper)(o:Oper)(e:Env16)(s:S)(e1:Env16)(s1:S):Prop:=
 (jd all e o.guard=some false/\e1=jb e o.dst (.tu [])/\s1=s)\/(jd all e o.guard=some true/\ ∃v,v≠ .und/\A5 rc P e s o.op= .ok v s1/\e1=jb e o.dst v)
theorem Ux{op:Op}{h:HK α}{s:S}(hc:Lq P loc D m op=some h)(hi:Inv loc D m fr e' e)(rc:FuncId->List V->S->RO):A5 rc P e s op=ap s (h.f fr e' s):=by
 unfold Lq at hc;split at hc
 .rename_i t x l hh
  split at hc
  .rename_i gx gl gh h1 h2 h3
   cases hc;have e1:gx fr e'=qb e x:=qH h1 hi;have e2:gl fr e'=qb e l:=qH h2 hi;have e3:gh fr e'=qb e hh:=qH h3 hi;show ap s (Ca P s.m t (qb e x) (qb e l) (qb e hh))=ap s (Ca P s.m t (gx fr e') (gl fr e') (gh fr e'));rw[e1,e2,e3]
  .cases hc
 .rename_i t x l hh z
  split at hc
  .rename_i gx gl gh gz h1 h2 h3 h4
   cases hc;have e1:gx fr e'=qb e x:=qH h1 hi;have e2:gl fr e'=qb e l:=qH h2 hi;have e3:gh fr e'=qb e hh:=qH h3 hi;have e4:gz fr e'=qb e z:=qH h4 hi;show ap s (DF P t (qb e x) (qb e l) (qb e hh) (qb e z))=ap s (DF P t (gx fr e') (gl fr e') (gh fr e') (gz fr e'));rw[e1,e2,e3,e4]
  .cases hc
 .cases hc
theorem SF{e:Env16}{mm:qR}{op:Op}(h:isS op=false):kopS P e mm op=none:=by
 unfold isS at h;unfold kopS
 split at h
 .cases h
 .rename_i hno
  split
  .rename_i t x l hh;exact(hno t x l hh none rfl).elim
  .rename_i t x l hh z;exact(hno t x l hh (some z) rfl).elim
  .rfl
theorem Qh{k:Kont γ α}{o:Oper}{s:S}(hr:RcLe pr (rg.f c) rc)(hd: ∀t,o.dst=some t->t<512)(hi:Inv loc D m fr e' e)(hf:(Jg P pr rg loc D m k o).f c fr e' s= .ok v2 s2):
  ∃v s1,v≠ .und/\A5 rc P e s o.op= .ok v s1/\Cont k loc fr c (jb e o.dst v) s1 v2 s2:=by
 unfold Jg at hf
 cases hs:isS o.op with
 |true=>
  rw[hs]at hf
  have hf:(match(generalizing:=false) Lq P loc D m o.op with
   |some ⟨h⟩=>finO loc D m k o.dst ⟨λ_ fr e s K=>roK (ap s (h fr e s)) λv s=>qF v λv=>K v s⟩
   |none=>badC).f c fr e' s= .ok v2 s2:=hf
  split at hf
  .rename_i h hc
   obtain⟨K,h1,h2⟩:=Jk hd hi hf;obtain⟨v,s1,h3,h4⟩:=DS (show roK (ap s (h fr e' s)) (λv s=>qF v λv=>K v s)= .ok v2 s2 from h1);obtain⟨h5,h6⟩:=wS h4;exact⟨v,s1,h5,by rw[Ux hc hi rc];exact h3,h2 v s1 h5 h6⟩
  .cases hf
 |false=>
  rw[hs]at hf;obtain⟨v,s1,h1,h2,h3⟩:=Km hr hd hi hf;refine⟨v,s1,h1,?_,h3⟩;unfold A5;rw[SF hs];exact h2
theorem RK{k:Kont γ α}{all:List Oper}{o:Oper}{s:S}(hr:RcLe pr (rg.f c) rc)(hd: ∀t,o.dst=some t->t<512)(hi:Inv loc D m fr e' e)(hf:(I4 P pr rg loc D m k all o).f c fr e' s= .ok v2 s2):
  ∃e1 s1,StepR1 rc P all o e s e1 s1/\Cont k loc fr c e1 s1 v2 s2:=by
 unfold I4 at hf;rcases Ii hd hi hf with⟨h1,h2⟩|⟨h1,e1',h2,h3⟩
 .obtain⟨v,s1,h3,h4,h5⟩:=Qh hr hd hi h2
  exact⟨_,s1,.inr ⟨h1,v,h3,h4,rfl⟩,h5⟩
 .exact⟨_,s,.inl ⟨h1,rfl,rfl⟩,α,id,_,_,fr,e1',rfl,h2,h3⟩
theorem Wm{all r:List Oper}{o:Oper}{s s1:S}{e1:Env16}(h:StepR1 rc P all o e s e1 s1):A6 rc P all (o::r) e s=A6 rc P all r e1 s1:=by
 rcases h with⟨h1,rfl,rfl⟩|⟨h1,v,_,h2,rfl⟩
 .show @Option.rec Bool (λ_=>R) _ _ (jd all e o.guard)=_
  rw[h1];rfl
 .show @Option.rec Bool (λ_=>R) _ _ (jd all e o.guard)=_
  rw[h1];show @RO.rec (λ_=>R) _ _ _ (A5 rc P e s o.op)=_;rw[h2];rfl
def zI(e e1:Env16):Prop:= ∀t,slot e t≠ .und->slot e1 t≠ .und
theorem D1{o:Option Tmp}{v:V}(hd: ∀t,o=some t->t<512)(hv:v≠ .und):zI e (jb e o v):=by
 intro t ht
 cases o with
 |none=>exact ht
 |some d=>
  rw[j9 (hd d rfl)];split
  .exact hv
  .exact ht
theorem StepR.keeps{all:List Oper}{o:Oper}{s s1:S}{e1:Env16}(h:StepR rc P all o e s e1 s1)(hd: ∀t,o.dst=some t->t<512):zI e e1/\ ∀t,o.dst=some t->slot e1 t≠ .und:=by
 have key: ∀v:V,v≠ .und->zI e (jb e o.dst v)/\ ∀t,o.dst=some t->slot (jb e o.dst v) t≠ .und:=λv hv=>⟨D1 hd hv,λt ht=>by rw[ht,j9 (hd t ht),if_pos rfl];exact hv⟩
 rcases h with⟨_,rfl,rfl⟩|⟨_,v,hv,_,rfl⟩
 .exact key _ (by simp)
 .exact key v hv
theorem StepR1.keeps{all:List Oper}{o:Oper}{s s1:S}{e1:Env16}(h:StepR1 rc P all o e s e1 s1)(hd: ∀t,o.dst=some t->t<512):zI e e1/\ ∀t,o.dst=some t->slot e1 t≠ .und:=by
 have key: ∀v:V,v≠ .und->zI e (jb e o.dst v)/\ ∀t,o.dst=some t->slot (jb e o.dst v) t≠ .und:=λv hv=>⟨D1 hd hv,λt ht=>by rw[ht,j9 (hd t ht),if_pos rfl];exact hv⟩
 rcases h with⟨_,rfl,rfl⟩|⟨_,v,hv,_,rfl⟩
 .exact key _ (by simp)
 .exact key v hv
theorem I7{nrm:CK γ}{all:List Oper}(hr:RcLe pr (rg.f c) rc): ∀(l:List Oper){α:Type}{m:Mp α}{D:Nat}{fr:α}{e' e:Env16}{s:S},(∀o∈l,∀t,o.dst=some t->t<512)->Inv loc D m fr e' e->
  (C1 P pr rg loc nrm all l α m D).f c fr e' s= .ok v2 s2->
  ∃e1 s1 e1',A6 rc P all l e s= .ok .nrm e1 s1/\(∀t,Nat.testBit loc t=false->slot e1' t=slot e1 t)/\zI e e1/\(∀o∈l,∀t,o.dst=some t->slot e1 t≠ .und)/\nrm.f c e1' s1= .ok v2 s2
 |[],α,m,D,fr,e',e,s,hd,hi,hf=>by
  refine⟨e,s,e',rfl,hi.ag,λt h=>h,λo ho=>(by simp at ho),?_⟩;obtain⟨f⟩:=nrm;exact hf
 |o::l,α,m,D,fr,e',e,s,hd,hi,hf=>by
  have hf:(I4 P pr rg loc D m (λβ _ m D=>C1 P pr rg loc nrm all l β m D) all o).f c fr e' s= .ok v2 s2:=hf;obtain⟨e1,s1,h1,β,p,mb,Db,fb,eb,_,h2,h3⟩:=RK hr (hd o q5l) hi hf;obtain⟨e2,s3,e2',g1,g2,g3,g4,g5⟩:=I7 hr l (λo ho=>hd o (q5k _ ho)) h2 h3;obtain⟨k1,k2⟩:=h1.keeps (hd o q5l);refine⟨e2,s3,e2',by rw[Wm h1];exact g1,g2,λt h=>g3 t (k1 t h),λo' ho t ht=>?_,g5⟩;rcases q5j.1 ho with rfl|ho
  .exact g3 t (k2 t ht)
  .exact g4 o' ho t ht
theorem G9(hag: ∀t,Nat.testBit loc t=false->slot e' t=slot e t)(hdf: ∀t,Nat.testBit D t=true->slot e t≠ .und):Inv loc D ([]:Mp Unit) () e' e:=⟨hag,λt x h=>(by cases h),hdf⟩
end
end
noncomputable section
theorem DG{a b:Key}(h:keyB a b=true):a=b:=by
 unfold keyB at h;simp only[jy]at h;obtain⟨h1,h2,h3,h4⟩:=h;have e1:=D16.n_inj (q5C h1);have e2:=D16.n_inj (q5C h2);have e3:=D16.n_inj (q5C h3);have e4:=D16.n_inj (q5C h4);cases a;cases b;simp_all
theorem M2{a b:Bool}(h:Qd a b=true):a=b:=by cases a<;>cases b<;>first|rfl|cases h
theorem P3{a b:IntKind}(h:keqF a b=true):a=b:=Fg (by rw[<-P2];exact h)
theorem LX{a b:V}(h:HW a b=true):a=b:=by
 unfold HW at h;split at h
 .simp only[jy]at h;rw[P3 h.1,q5C h.2]
 .simp only[jy]at h;rw[P3 h.1,q5C h.2]
 .rw[M2 h]
 .simp only[jy]at h;rw[M2 h.1,q5C h.2.1,q5C h.2.2]
 .rw[q5C h]
 .simp only[jy]at h;rw[DG h.1,q5C h.2]
 .simp only[jy]at h;rw[DG h.1,q5C h.2.1,q5C h.2.2.1,q5C h.2.2.2]
 .simp only[jy]at h;rw[DG h.1,q5C h.2.1,q5C h.2.2.1,q5C h.2.2.2.1,q5C h.2.2.2.2]
 .simp only[jy]at h;rw[DG h.1,q5C h.2.1,q5C h.2.2.1,q5C h.2.2.2]
 .rw[DG h]
 .simp only[jy]at h;rw[q5C h.1,q5C h.2]
 .rfl
 .rfl
 .rw[Uo.1 h]
 .simp only[jy]at h;rw[q5C h.1,q5C h.2]
 .cases h
theorem LY: ∀{a b:List V},Ll a b=true->a=b
 |[],[],_=>rfl
 |a::l,b::r,h=>by
  have h:jf (HW a b) (Ll l r)=true:=h;rw[jy]at h;rw[LX h.1,LY h.2]
 |[],_::_,h=>by cases h
 |_::_,[],h=>by cases h
theorem XT{a b:V}(h:beqV a b=true):a=b:=by
 unfold beqV at h;split at h
 .simp only[jy]at h;rw[q5C h.1,LY h.2]
 .exact LX h
section
variable {v2:V} {s2:S} {γ:Type} {P:Program} {pr:vE} {rg:RG γ} {loc:Nat} {c:γ} {rc:FuncId->List V->S->RO}
theorem Kt{α β:Type}(f:Src α->Src β)(t:Nat): ∀m:Mp α,vp t (m.map λp=>(p.1,f p.2))=(vp t m).map f
 |[]=>rfl
 |p::r=>by
  show(bif Nat.beq p.1 t then some (f p.2)else vp t (r.map λp=>(p.1,f p.2)))=Option.map f (bif Nat.beq p.1 t then some p.2 else vp t r)
  cases Nat.beq p.1 t with
  |true=>rfl
  |false=>exact Kt f t r
theorem OZ{α β:Type}{D:Nat}{m:Mp α}{fr:α}{fr2:β}{e' e:Env16}(f:Src α->Src β)(hf: ∀t x,SrcOk loc fr e' e t x->SrcOk loc fr2 e' e t (f x))(hi:Inv loc D m fr e' e):Inv loc D (m.map λp=>(p.1,f p.2)) fr2 e' e:=by
 refine⟨hi.ag,λt x hx=>?_,hi.df⟩;rw[Kt]at hx
 cases h:vp t m with
 |none=>rw[h]at hx;cases hx
 |some y=>
  rw[h]at hx;cases hx
  obtain⟨h1,h2⟩:=hi.mp t y h;exact⟨h1,hf t y h2⟩
theorem MG{α:Type}{D:Nat}{m:Mp α}{fr:α}{e' e:Env16}(v:V)(hi:Inv loc D m fr e' e):Inv loc D (upM m) (⟨v,fr⟩:Fm α) e' e:=OZ Src.up (λt x h=>h.up) hi
theorem q1h{α:Type}{D:Nat}{m:Mp α}{fr:α}{e' e:Env16}(s:S)(hi:Inv loc D m fr e' e):Inv loc D (m.map λp=>(p.1,p.2.us)) (⟨s,fr⟩:Fs α) e' e:=
 OZ Src.us (λt x h=>by cases x<;>exact h) hi
def HsOk{α:Type}(hs:List (Option (GS α)))(fr:α)(ss:Nat->S)(i:Nat):Prop:=hs.length=i/\ ∀u g,hs[u]?=some (some g)->g.f fr=ss u
def LdOk{α:Type}(P:Program)(all:List Oper)(M:List Nat)(ld:List (LD α))(fr:α)(es:Nat->Env16)(ss:Nat->S)(i:Nat):Prop:=
 ∀d∈ld,d.i<i/\((d.sk=true/\jd all (es d.i) (qx all d.i).guard=some false)\/
  (d.sk=false/\(∀m,d.f fr m=rdO P (es d.i) m (qx all d.i).op)/\d.v fr≠ .und/\(rdO P (es d.i) (rmK (ss d.i).m (zOf P ss all M d.i)) (qx all d.i).op).res=d.v fr))
theorem Mu{α:Type}{j:Nat}: ∀{ld:List (LD α)}{d:LD α},Ie j ld=some d->d∈ld/\d.i=j
 |[],d,h=>by cases h
 |a::r,d,h=>by
  have h:(bif Nat.beq a.i j then some a else Ie j r)=some d:=h
  cases hb:Nat.beq a.i j with
  |true=>rw[hb]at h;cases h;exact⟨by simp,q5C hb⟩
  |false=>rw[hb]at h;obtain⟨h1,h2⟩:=Mu h;exact⟨by simp[h1],h2⟩
theorem Fe{β:Type}{o:Option (Option β)}{x:β}(h:o.join=some x):o=some (some x):=by
 cases o with
 |none=>cases h
 |some o=>cases o with
  |none=>cases h
  |some y=>cases h;rfl
theorem E0{r:KR}{v:V}{z:RO}(h:agF r v z= .ok v2 s2):r.res=v/\z= .ok v2 s2:=by
 unfold agF at h;obtain⟨h1,h2⟩:=zm h;exact⟨XT h1,h2⟩
theorem FY{α:Type}{n:Nat}{hs:List (Option (GS α))}{ld:List (LD α)}{fr:α}{s:S}: ∀{L:List (Nat×Nat)}{b:BL α}{z:RO},chkL n hs ld L=some b->b.f fr s z= .ok v2 s2->z= .ok v2 s2/\ ∀q∈L,∃d g,Ie q.1 ld=some d/\hs[q.2]?=some (some g)/\
  (d.sk=true\/((d.f fr (g.f fr).m).res=d.v fr/\((q.2+1=n/\(d.f fr s.m).res=d.v fr)\/ ∃g',hs[q.2+1]?=some (some g')/\(d.f fr (g'.f fr).m).res=d.v fr)))
 |[],b,z,h,hb=>by cases h;exact⟨hb,λq hq=>by simp at hq⟩
 |p::r,b,z,h,hb=>by
  unfold chkL at h;split at h
  .rename_i i0 sk ff vv g b' h1 h2 h3
   have h2:=Fe h2
   cases hsk:sk with
   |true=>
    rw[hsk,cond_true]at h;cases h
    obtain⟨k1,k2⟩:=FY h3 hb;refine⟨k1,λq hq=>?_⟩;rcases q5j.1 hq with rfl|hq
    .exact⟨_,⟨g⟩,h1,h2,.inl hsk⟩
    .exact k2 q hq
   |false=>
    rw[hsk,cond_false]at h
    cases hn:Nat.beq (p.2+1) n with
    |true=>
     rw[hn,cond_true]at h;cases h
     obtain⟨a1,hb⟩:=E0 hb;obtain⟨a2,hb⟩:=E0 hb;obtain⟨k1,k2⟩:=FY h3 hb;refine⟨k1,λq hq=>?_⟩;rcases q5j.1 hq with rfl|hq
     .exact⟨_,⟨g⟩,h1,h2,.inr ⟨a1,.inl ⟨q5C hn,a2⟩⟩⟩
     .exact k2 q hq
    |false=>
     rw[hn,cond_false]at h;split at h
     .rename_i g' h4
      have h4:=Fe h4;cases h;obtain⟨a1,hb⟩:=E0 hb;obtain⟨a2,hb⟩:=E0 hb;obtain⟨k1,k2⟩:=FY h3 hb;refine⟨k1,λq hq=>?_⟩;rcases q5j.1 hq with rfl|hq
      .exact⟨_,⟨g⟩,h1,h2,.inr ⟨a1,.inr ⟨⟨g'⟩,h4,a2⟩⟩⟩
      .exact k2 q hq
     .cases h
  .cases h
theorem GS.by_f{α β:Type}(g:GS α)(p:β->α)(fb:β):(g.by p).f fb=g.f (p fb):=by obtain⟨f⟩:=g;rfl
theorem Ly{α β:Type}{hs:List (Option (GS α))}{fr:α}{ss:Nat->S}{i:Nat}(h:HsOk hs fr ss i){p:β->α}{fb:β}(hp:p fb=fr):HsOk (hs.map λh=>h.map λh=>h.by p) fb ss i:=by
 refine⟨by rw[q5e];exact h.1,λu g hg=>?_⟩;rw[List.getElem?_map]at hg
 cases hu:hs[u]? with
 |none=>rw[hu]at hg;cases hg
 |some o=>
  rw[hu]at hg
  cases o with
  |none=>cases hg
  |some g0=>cases hg;rw[GS.by_f,hp];exact h.2 u g0 hu
theorem LD.by_f{α β:Type}(d:LD α)(p:β->α)(fb:β):(d.by p).i=d.i/\(d.by p).sk=d.sk/\(d.by p).f fb=d.f (p fb)/\(d.by p).v fb=d.v (p fb):=by obtain⟨a,b,c,e⟩:=d;exact⟨rfl,rfl,rfl,rfl⟩
theorem LE{α β:Type}{all:List Oper}{M:List Nat}{ld:List (LD α)}{fr:α}{es:Nat->Env16}{ss:Nat->S}{i:Nat}(h:LdOk P all M ld fr es ss i){p:β->α}{fb:β}(hp:p fb=fr):LdOk P all M (ld.map λh=>h.by p) fb es ss i:=by
 intro d hd;obtain⟨d0,h0,rfl⟩:=List.mem_map.1 hd;obtain⟨e1,e2,e3,e4⟩:=LD.by_f d0 p fb;rw[e1,e2,e3,e4,hp];exact h d0 h0
theorem K9{α:Type}{hs:List (Option (GS α))}{fr:α}{ss:Nat->S}{i:Nat}(h:HsOk hs fr ss i): ∀{us:List Nat}{z:ZL α},zGet hs us=some z->z.f fr=us.map λu=>(ss u).nx
 |[],z,hz=>by cases hz;rfl
 |u::us,z,hz=>by
  unfold zGet at hz;split at hz
  .rename_i g l h1 h2
   cases hz;show(g fr).nx::l fr=_;have e1:g fr=ss u:=h.2 u ⟨g⟩ (Fe h1);have e2:l fr=_:=K9 h h2;rw[e1,e2];rfl
  .cases hz
def ext{β:Type}(f:Nat->β)(i:Nat)(b:β):Nat->β:=λj=>if j<=i then f j else b
theorem zu{β:Type}{f:Nat->β}{i j:Nat}{b:β}(h:j<=i):ext f i b j=f j:=by unfold ext;rw[if_pos h]
theorem S3{β:Type}{f:Nat->β}{i:Nat}{b:β}:ext f i b (i+1)=b:=by unfold ext;rw[if_neg (by omega)]
theorem q2P{all:List Oper}{M:List Nat}{i u:Nat}(h:u∈unz P all M i):u<i:=by
 unfold unz at h
 cases hb:Nat.ble (cls P (qx all i).op) 1 with
 |true=>rw[hb]at h;simp at h
 |false=>rw[hb]at h;exact List.mem_range.1 (q5m.1 h).1
theorem GF{all:List Oper}{M:List Nat}{ss ss':Nat->S}{i:Nat}(h: ∀j,j<i->ss' j=ss j):zOf P ss' all M i=zOf P ss all M i:=by
 unfold zOf;exact List.map_congr_left λu hu=>by rw[h u (q2P hu)]
theorem Sn{α:Type}{hs:List (Option (GS α))}{fr:α}{ss:Nat->S}{i:Nat}{s1:S}{hs2:List (Option (GS α))}(h:HsOk hs fr ss i)(h2:hs2=hs++[none]\/ ∃g:GS α,hs2=hs++[some g]/\g.f fr=ss i):HsOk hs2 fr (ext ss i s1) (i+1):=by
 have key: ∀o:Option (GS α),(∀g,o=some g->g.f fr=ss i)->HsOk (hs++[o]) fr (ext ss i s1) (i+1):=by
  intro o ho;refine⟨by rw[q5b,h.1];rfl,λu g hg=>?_⟩;rcases q5L u i with hu|hu
  .rw[List.getElem?_append_left (by rw[h.1];exact hu)]at hg
   rw[zu (by omega)];exact h.2 u g hg
  .rw[List.getElem?_append_right (by rw[h.1];exact hu),h.1]at hg
   by_cases e:u=i
   .subst e
    simp at hg;rw[zu (q5H _)];exact ho g hg
   .have:u-i=(u-i-1)+1:=by omega
    rw[this]at hg;simp at hg
 rcases h2 with rfl|⟨g,rfl,hg⟩
 .exact key none λg hg=>by cases hg
 .exact key (some g) λg' hg'=>by cases hg';exact hg
theorem Fi{α:Type}{all:List Oper}{M:List Nat}{ld:List (LD α)}{fr:α}{es:Nat->Env16}{ss:Nat->S}{i:Nat}{e1:Env16}{s1:S}(h:LdOk P all M ld fr es ss i):LdOk P all M ld fr (ext es i e1) (ext ss i s1) (i+1):=by
 intro d hd;obtain⟨h1,h5⟩:=h d hd;refine⟨by omega,?_⟩;rw[zu (by omega),zu (by omega),GF (λj hj=>zu (by omega))];exact h5
def q3l(P:Program)(all:List Oper)(M:List Nat)(es:Nat->Env16)(ss:Nat->S):Prop:=
 ∀j u,(j,u)∈ldP P all M->jd all (es j) (qx all j).guard=some true-> ∃w,w≠ .und/\
  (rdO P (es j) (rmK (ss j).m (zOf P ss all M j)) (qx all j).op).res=w/\(rdO P (es j) (ss u).m (qx all j).op).res=w/\(rdO P (es j) (ss (u+1)).m (qx all j).op).res=w
end
end
noncomputable section
theorem Ge{α:Type}{a b:N16 α}(h: ∀d,a.get d=b.get d):a=b:=by
 have h0:=h .d0;have h1:=h .d1;have h2:=h .d2;have h3:=h .d3;have h4:=h .d4;have h5:=h .d5;have h6:=h .d6;have h7:=h .d7
 have h8:=h .d8;have h9:=h .d9;have h10:=h .d10;have h11:=h .d11;have h12:=h .d12;have h13:=h .d13;have h14:=h .d14;have h15:=h .d15
 cases a;cases b
 simp only[N16.get]at*
 simp_all
theorem q1u{α:Type}{a b:M4 α}(h: ∀k,mget a k=mget b k):a=b:=
 Ge λw=>Ge λx=>Ge λy=>Ge λz=>h ⟨w,x,y,z⟩
theorem q4k(m:qR)(z:List Key):reK m (rmK m z) z=m:=by
 refine q1u λk=>?_
 rw[B0,wQ];by_cases h:k∈z
 .cases hk:mget m k with
  |none=>simp[h]
  |some b=>simp[h]
 .simp[h]
section
variable {v2:V} {s2:S} {γ:Type} {P:Program} {pr:vE} {rg:RG γ} {loc:Nat} {c:γ} {rc:FuncId->List V->S->RO}
theorem Vn{g:Bool}{sz:Nat}{m:qR}{p:V}{K:V->RO}{t:TypeId}(ht:qE P t=some (g,sz))(hs:g=false->sz=1)(h:BR g sz m p K= .ok v2 s2): ∃u ks,u≠ .und/\K u= .ok v2 s2/\v4 P m t p= .val u ks:=by
 obtain⟨u,ks,h1,h2,h3⟩:=JC (P:=P) (part:=λv' o=>AJ g sz v' o K) ht (λv' o ks h=>VT ks hs h) h;exact⟨u,ks,h1,h2,h3⟩
theorem Hd{α:Type}{hs:List (Option (GS α))}{fr:α}{ss ss':Nat->S}{n:Nat}(h:HsOk hs fr ss n)(he: ∀j,j<n->ss' j=ss j):HsOk hs fr ss' n:=by
 refine⟨h.1,λu g hg=>?_⟩
 have hu:u<n:=by
  rw[<-h.1];exact(List.getElem?_eq_some_iff.1 hg).1
 rw[he u hu];exact h.2 u g hg
theorem P8{α:Type}{all:List Oper}{M:List Nat}{ld:List (LD α)}{fr:α}{es:Nat->Env16}{ss:Nat->S}{i:Nat}{d:LD α}(h:LdOk P all M ld fr es ss (i+1))(hd:d.i<i+1/\((d.sk=true/\jd all (es d.i) (qx all d.i).guard=some false)\/
  (d.sk=false/\(∀m,d.f fr m=rdO P (es d.i) m (qx all d.i).op)/\d.v fr≠ .und/\(rdO P (es d.i) (rmK (ss d.i).m (zOf P ss all M d.i)) (qx all d.i).op).res=d.v fr))):
  LdOk P all M (d::ld) fr es ss (i+1):=by
 intro d' hd';rcases q5j.1 hd' with rfl|hd'
 .exact hd
 .exact h d' hd'
theorem q1T{α:Type}{m1:Mp α}{D:Nat}{fr:α}{e' e:Env16}{op:Op}{r:R2 α}(h:rdC P loc m1 D op=some r)(hi:Inv loc D m1 fr e' e):cls P op=2/\ ∀m,r.f (r.a fr e') (r.b fr e') m=rdO P e m op:=by
 unfold rdC at h;split at h
 .split at h
  .rename_i t x _ g hg
   cases h;have hx:g fr e'=qb e x:=qH hg hi;refine⟨rfl,λm=>?_⟩;show v4 P m t (g fr e')=v4 P m t (qb e x);rw[hx]
  .cases h
 .split at h
  .rename_i t x y cm _ _ gx gy hgx hgy
   cases h;have hx:gx fr e'=qb e x:=qH hgx hi;have hy:gy fr e'=qb e y:=qH hgy hi;refine⟨rfl,λm=>?_⟩;show vC P m t cm (gx fr e') (gy fr e')=vC P m t cm (qb e x) (qb e y);rw[hx,hy]
  .cases h
 .cases h
theorem TQ{all:List Oper}{o:Oper}{e:Env16}{s:S}{e1:Env16}{s1:S}(h:StepR rc P all o e s e1 s1):Dg rc P all [] o e s e1 s1:=by
 rcases h with h|⟨h1,v,_,h2,h3⟩
 .exact .inl h
 .exact .inr ⟨h1,v,s1,h2,h3,rfl⟩
def HP(rc:FuncId->List V->S->RO)(P:Program)(all:List Oper)(M:List Nat)(loc:Nat)(i:Nat)(rest:CP γ)(c:γ)(es:Nat->Env16)(ss:Nat->S)(v2:V)(s2:S):Prop:=
 ∃e1 s1,∃(β:Type)(mβ:Mp β)(Dβ:Nat)(hsβ:List (Option (GS β)))(ldβ:List (LD β))(fb:β)(eb:Env16),
  Dg rc P all (zOf P ss all M i) (qx all i) (es i) (ss i) e1 s1/\zI (es i) e1/\(∀t,(qx all i).dst=some t->slot e1 t≠ .und)/\Inv loc Dβ mβ fb eb e1/\HsOk hsβ fb ss (i+1)/\
  LdOk P all M ldβ fb (ext es i e1) (ext ss i s1) (i+1)/\(rest β mβ Dβ hsβ ldβ).f c fb eb s1= .ok v2 s2
theorem GH{all:List Oper}{M:List Nat}{i:Nat}{rest:CP γ}{α:Type}{m1:Mp α}{D:Nat}{hs1:List (Option (GS α))}{ld1:List (LD α)}{fr:α}{e':Env16}{es:Nat->Env16}{ss:Nat->S}
  (hr:RcLe pr (rg.f c) rc)(hd: ∀t,(qx all i).dst=some t->t<512)(hi:Inv loc D m1 fr e' (es i))(hh:HsOk hs1 fr ss (i+1))(hl:LdOk P all M ld1 fr es ss i)
  (h:(AT P pr rg loc all M i (qx all i) rest m1 D hs1 ld1).f c fr e' (ss i)= .ok v2 s2):HP rc P all M loc i rest c es ss v2 s2:=by
 have plain:unz P all M i=[]->(I3 P pr rg loc D m1 (λβ pr mβ Dβ=>rest β mβ Dβ (hs1.map λh=>h.map λh=>h.by pr) (ld1.map λh=>h.by pr)) all (qx all i)).f c fr e' (ss i)= .ok v2 s2->HP rc P all M loc i rest c es ss v2 s2:=by
  intro hz h;obtain⟨e1,s1,h1,β,p,mb,Db,fb,eb,hp,h2,h3⟩:=Uu hr hd hi h;obtain⟨k1,k2⟩:=h1.keeps hd;refine⟨e1,s1,β,mb,Db,_,_,fb,eb,?_,k1,k2,h2,Ly hh hp,?_,h3⟩
  .have:zOf P ss all M i=[]:=by unfold zOf;rw[hz];rfl
   rw[this];exact TQ h1
  .exact LE (Fi hl) hp
 have skip: ∀{ld2:List (LD α)}{e1':Env16},jd all (es i) (qx all i).guard=some false->Inv loc (skD D (qx all i).dst) (skM m1 (qx all i).dst) fr e1' (jb (es i) (qx all i).dst (.tu []))->
   LdOk P all M ld2 fr (ext es i (jb (es i) (qx all i).dst (.tu []))) (ext ss i (ss i)) (i+1)->(rest α (skM m1 (qx all i).dst) (skD D (qx all i).dst) hs1 ld2).f c fr e1' (ss i)= .ok v2 s2->HP rc P all M loc i rest c es ss v2 s2:=by
  intro ld2 e1' hg hi2 hl2 h;have st:StepR rc P all (qx all i) (es i) (ss i) (jb (es i) (qx all i).dst (.tu [])) (ss i):= .inl ⟨hg,rfl,rfl⟩;obtain⟨k1,k2⟩:=st.keeps hd;exact⟨_,ss i,α,_,_,hs1,ld2,fr,e1',.inl ⟨hg,rfl,rfl⟩,k1,k2,hi2,hh,hl2,h⟩
 have special:(Mh P loc all i (qx all i) rest m1 D hs1 ld1 (unz P all M i)).f c fr e' (ss i)= .ok v2 s2->HP rc P all M loc i rest c es ss v2 s2:=by
  intro h;unfold Mh at h;split at h
  .rename_i ga gb f zg hrd hzg
   obtain⟨hc2,hf⟩:=q1T hrd hi;rcases Ii hd hi h with⟨hgd,h2⟩|⟨hgd,e1',h2,h3⟩
   .generalize hk:finV (γ:=γ) (α:=Fm (Fm (Fm α))) loc D (upM (upM (upM m1))) (λβ(pr:β->Fm (Fm (Fm α))) mβ Dβ=>rest β mβ Dβ (hs1.map λ(h:Option (GS α))=>h.map λ(h:GS α)=>h.by λ(x:β)=>(pr x).r.r.r) (⟨i,false,λfr m=>f (pr fr).r.r.v (pr fr).r.v m,λfr=>(pr fr).v⟩::ld1.map λ(h:LD α)=>h.by λ(x:β)=>(pr x).r.r.r)) (qx all i).dst ⟨λfr _ _ K=>K fr.v⟩=q at h2
    obtain⟨k⟩:=q;obtain⟨_,h2⟩:=wS (show qF (ga fr e') _= .ok v2 s2 from h2);obtain⟨_,h2⟩:=wS h2;have hze:zg fr=zOf P ss all M i:=K9 hh hzg;rw[hze]at h2;obtain⟨hu,h2⟩:=wS h2;have hf':f (ga fr e') (gb fr e') (rmK (ss i).m (zOf P ss all M i))=rdO P (es i) (rmK (ss i).m (zOf P ss all M i)) (qx all i).op:=hf _;rw[hf']at hu h2;generalize hu0:(rdO P (es i) (rmK (ss i).m (zOf P ss all M i)) (qx all i).op).res=u at hu h2;have h3:(finV (γ:=γ) (α:=Fm (Fm (Fm α))) loc D (upM (upM (upM m1))) (λβ(pr:β->Fm (Fm (Fm α))) mβ Dβ=>rest β mβ Dβ (hs1.map λ(h:Option (GS α))=>h.map λ(h:GS α)=>h.by λ(x:β)=>(pr x).r.r.r) (⟨i,false,λfr m=>f (pr fr).r.r.v (pr fr).r.v m,λfr=>(pr fr).v⟩::ld1.map λ(h:LD α)=>h.by λ(x:β)=>(pr x).r.r.r)) (qx all i).dst ⟨λfr _ _ K=>K fr.v⟩).f c ⟨u,⟨gb fr e',⟨ga fr e',fr⟩⟩⟩ e' (ss i)= .ok v2 s2:=by rw[hk];exact h2
    obtain⟨K,h5,h6⟩:=OP hd (MG u (MG (gb fr e') (MG (ga fr e') hi))) h3;obtain⟨β,p,mb,Db,fb,eb,hpf,h7,h8⟩:=h6 u hu h5;obtain⟨kk0,bb0,_,_,hsh⟩:=EE (P:=P) (e:=es i) (m:=rmK (ss i).m (zOf P ss all M i)) (op:=(qx all i).op) (by rw[hu0];exact hu);rw[hu0]at hsh
    have st:Dg rc P all (zOf P ss all M i) (qx all i) (es i) (ss i) (jb (es i) (qx all i).dst u) (ss i):=by
     refine .inr ⟨hgd,u,⟨rmK (ss i).m (zOf P ss all M i),(ss i).nx,(ss i).dn,(ss i).sc⟩,?_,rfl,?_⟩
     .rw[KZ (by rw[hc2];decide),kop2 hc2]
      show ap _ (rdO P (es i) (rmK (ss i).m (zOf P ss all M i)) (qx all i).op)=_;rw[hsh];rfl
     .rw[q4k]
    refine⟨_,ss i,β,mb,Db,_,_,fb,eb,st,D1 hd hu,λt' ht'=>?_,h7,?_,?_,h8⟩
    .rw[ht',j9 (hd t' ht'),if_pos rfl];exact hu
    .exact Ly (p:=λx=>(p x).r.r.r) hh (by show(p fb).r.r.r=fr;rw[hpf])
    .refine P8 (LE (p:=λx=>(p x).r.r.r) (Fi hl) (by show(p fb).r.r.r=fr;rw[hpf])) ⟨by show i<i+1;omega,.inr ⟨rfl,λm=>?_,?_,?_⟩⟩
     .show f (p fb).r.r.v (p fb).r.v m=rdO P (ext es i _ i) m (qx all i).op
      rw[hpf,zu (q5H _)];exact hf m
     .show(p fb).v≠ .und
      rw[hpf];exact hu
     .show(rdO P (ext es i _ i) (rmK (ext ss i _ i).m (zOf P (ext ss i _) all M i)) (qx all i).op).res=(p fb).v
      rw[zu (q5H _),zu (q5H _),GF (λj hj=>zu (by omega)),hu0,hpf]
   .refine skip hgd h2 (P8 (Fi hl) ⟨by show i<i+1;omega,.inl ⟨rfl,?_⟩⟩) h3
    show jd all (ext es i _ i) _=_;rw[zu (q5H _)];exact hgd
  .cases h
 unfold AT at h
 cases hrdb:isRd (qx all i).op with
 |true=>
  rw[hrdb,cond_true]at h
  cases hz:unz P all M i with
  |nil=>
   cases hany:(ldP P all M).any (λq=>Nat.beq q.1 i)with
   |false=>rw[hz,hany]at h;exact plain hz h
   |true=>rw[hz,hany]at h;rw[hz]at special;exact special h
  |cons u us=>rw[hz]at h special;exact special h
 |false=>
  rw[hrdb,cond_false]at h
  cases hz:unz P all M i with
  |nil=>rw[hz]at h;exact plain hz h
  |cons u us=>
   rw[hz]at h;simp only at h;rw[<-hz]at h;split at h
   .rename_i hop zg hcomp hzg
    rcases Ii hd hi h with⟨hgd,h2⟩|⟨hgd,e1',h2,h3⟩
    .obtain⟨K,h3,h4⟩:=Jk hd hi h2
     have hze:zg fr=zOf P ss all M i:=K9 hh hzg;have h3:hop c fr e' ⟨rmK (ss i).m (zg fr),(ss i).nx,(ss i).dn,(ss i).sc⟩ (λv s2=>K v (XC (ss i) (zg fr) s2))= .ok v2 s2:=h3;obtain⟨v,s1,hv,h5,h6⟩:=Mg hr hcomp hi h3;obtain⟨β,p,mb,Db,fb,eb,hpf,h7,h8⟩:=h4 v _ hv h6;rw[hze]at h5 h8;refine⟨_,_,β,mb,Db,_,_,fb,eb,.inr ⟨hgd,v,s1,h5,rfl,rfl⟩,D1 hd hv,λt' ht'=>?_,h7,Ly hh hpf,LE (Fi hl) hpf,h8⟩;rw[ht',j9 (hd t' ht'),if_pos rfl];exact hv
    .exact skip hgd h2 (Fi hl) h3
   .cases h
theorem Qg{all:List Oper}{M:List Nat}{i:Nat}{rest:CP γ}{α:Type}{m:Mp α}{D:Nat}{hs:List (Option (GS α))}{ld:List (LD α)}{fr:α}{e':Env16}{es:Nat->Env16}{ss:Nat->S}
  (hr:RcLe pr (rg.f c) rc)(hd: ∀t,(qx all i).dst=some t->t<512)(hi:Inv loc D m fr e' (es i))(hh:HsOk hs fr ss i)(hl:LdOk P all M ld fr es ss i)
  (h:(G0 P pr rg loc all M i (qx all i) rest m D hs ld).f c fr e' (ss i)= .ok v2 s2):HP rc P all M loc i rest c es ss v2 s2:=by
 unfold G0 at h;have cg: ∀{s1:S}{j:Nat},j<i+1->ss j=ext ss i s1 j:=λhj=>(zu (by omega)).symm
 cases hn:Xv P all M i with
 |true=>
  rw[hn,cond_true]at h;generalize hk:AT P pr rg loc all M i (qx all i) rest (m.map λp=>(p.1,p.2.us)) D ((hs.map λh=>h.map λh=>h.by λf=>f.r)++[some ⟨λfr=>fr.s⟩]) (ld.map λh=>h.by λf=>f.r)=q at h;obtain⟨f⟩:=q;have h:(AT P pr rg loc all M i (qx all i) rest (m.map λp=>(p.1,p.2.us)) D ((hs.map λh=>h.map λh=>h.by λf=>f.r)++[some ⟨λfr=>fr.s⟩]) (ld.map λh=>h.by λf=>f.r)).f c (⟨ss i,fr⟩:Fs α) e' (ss i)= .ok v2 s2:=by rw[hk];exact h
  refine GH hr hd (q1h (ss i) hi) ?_ (LE hl rfl) h;exact Hd (Sn (s1:=ss i) (Ly hh (p:=λf:Fs α=>f.r) (fb:=⟨ss i,fr⟩) rfl) (.inr ⟨⟨λfr=>fr.s⟩,rfl,rfl⟩)) λj hj=>cg hj
 |false=>
  rw[hn,cond_false]at h;exact GH hr hd hi (Hd (Sn (s1:=ss i) hh (.inl rfl)) λj hj=>cg hj) hl h
end
end
noncomputable section
section
variable {v2:V} {s2:S} {γ:Type} {P:Program} {pr:vE} {rg:RG γ} {loc:Nat} {c:γ} {rc:FuncId->List V->S->RO}
theorem Te{all:List Oper}{i:Nat}{o:Oper}{r:List Oper}(h:o::r=all.drop i):qx all i=o/\r=all.drop (i+1)/\i<all.length:=by
 have h1:all[i]?=some o:=by
  have:(all.drop i)[0]?=some o:=by rw[<-h];rfl
  rw[q56]at this;simpa using this
 refine⟨by unfold qx;rw[q53,h1];rfl,?_,(List.getElem?_eq_some_iff.1 h1).1⟩;have:(all.drop i).drop 1=all.drop (i+1):=by rw[q4Y]
 rw[<-this,<-h];rfl
theorem Kl{nrm:CK γ}{all:List Oper}{M:List Nat}(hr:RcLe pr (rg.f c) rc)(hd: ∀o∈all,∀t,o.dst=some t->t<512):
  ∀(l:List Oper)(i:Nat),l=all.drop i->i<=all.length-> ∀{α:Type}{m:Mp α}{D:Nat}{hs:List (Option (GS α))}{ld:List (LD α)}{fr:α}{e':Env16}(es:Nat->Env16)(ss:Nat->S),
  Inv loc D m fr e' (es i)->HsOk hs fr ss i->LdOk P all M ld fr es ss i->(Dw P pr rg loc nrm all M l i α m D hs ld).f c fr e' (ss i)= .ok v2 s2->
  ∃es' ss' e1',(∀j,j<=i->es' j=es j/\ss' j=ss j)/\(∀t,Nat.testBit loc t=false->slot e1' t=slot (es' all.length) t)/\zI (es i) (es' all.length)/\(∀o∈l,∀t,o.dst=some t->slot (es' all.length) t≠ .und)/\
   (∀j,i<=j->j<all.length->Dg rc P all (zOf P ss' all M j) (qx all j) (es' j) (ss' j) (es' (j+1)) (ss' (j+1)))/\q3l P all M es' ss'/\nrm.f c e1' (ss' all.length)= .ok v2 s2
 |[],i,hl,hile,α,m,D,hs,ld,fr,e',es,ss,hi,hh,hld,h=>by
  have hin:i=all.length:=by
   have:=congrArg List.length hl;simp at this;omega
  subst hin;have h:(match chkL all.length hs ld (ldP P all M),nrm with|some ⟨b⟩,⟨f⟩=>(⟨λc fr e s=>b fr s (f c e s)⟩:CF γ α)|none,_=>badC).f c fr e' (ss all.length)= .ok v2 s2:=h;split at h
  .rename_i b _ hb f
   obtain⟨h1,h2⟩:=FY hb (show b fr (ss all.length) _= .ok v2 s2 from h);refine⟨es,ss,e',λj _=>⟨rfl,rfl⟩,hi.ag,λt h=>h,λo ho=>(by simp at ho),λj h1 h2=>by omega,λj u hju hg=>?_,h1⟩;obtain⟨d,g,h3,h4,h5⟩:=h2 (j,u) hju;obtain⟨hmem,rfl⟩:=Mu h3;obtain⟨_,q4⟩:=hld d hmem;rcases q4 with⟨k1,k2⟩|⟨k1,k2,k3,k4⟩
   .rw[k2]at hg;cases hg
   .rcases h5 with h5|⟨h5,h6⟩
    .rw[k1]at h5;cases h5
    .refine⟨d.v fr,k3,k4,?_,?_⟩
     .rwa [hh.2 u g h4,k2]at h5
     .rcases h6 with⟨e3,h6⟩|⟨g',h6,h7⟩
      .simp only at e3
       rwa [<-e3,k2]at h6
      .rwa [hh.2 _ g' h6,k2]at h7
  .cases h
 |o::r,i,hl,hile,α,m,D,hs,ld,fr,e',es,ss,hi,hh,hld,h=>by
  obtain⟨ho,hr2,hlt⟩:=Te hl
  have hmem:qx all i∈all:=by
   have:o∈all:=List.mem_of_mem_drop (i:=i) (by rw[<-hl];simp);rw[ho];exact this
  have h:(G0 P pr rg loc all M i o (Dw P pr rg loc nrm all M r (i+1)) m D hs ld).f c fr e' (ss i)= .ok v2 s2:=h;rw[<-ho]at h;obtain⟨e1,s1,β,mb,Db,hsb,ldb,fb,eb,h1,h2,h3,h4,h5,h6,h7⟩:=Qg hr (hd _ hmem) hi hh hld h;have x1:ext es i e1 (i+1)=e1:=S3;have x2:ext ss i s1 (i+1)=s1:=S3;obtain⟨es',ss',e1',g1,g2,g3,g4,g5,g6,g7⟩:=Kl (nrm:=nrm) hr hd r (i+1) hr2 hlt (es:=ext es i e1) (ss:=ext ss i s1) (by rw[x1];exact h4) (Hd h5 λj hj=>zu (by omega)) h6 (by rw[x2];exact h7);rw[x1]at g3;have y1: ∀j,j<=i->es' j=es j/\ss' j=ss j:=λj hj=>⟨(g1 j (by omega)).1.trans (zu hj),(g1 j (by omega)).2.trans (zu hj)⟩
  refine⟨es',ss',e1',y1,g2,λt ht=>g3 t (h2 t ht),λo' ho' t ht=>?_,λj hj1 hj2=>?_,g6,g7⟩
  .rcases q5j.1 ho' with rfl|ho'
   .exact g3 t (h3 t (by rw[ho];exact ht))
   .exact g4 o' ho' t ht
  .by_cases hj:j=i
   .subst hj
    rw[(y1 j (q5H _)).1,(y1 j (q5H _)).2,(g1 (j+1) (q5H _)).1,(g1 (j+1) (q5H _)).2,x1,x2,GF (λk hk=>(y1 k (by omega)).2)];exact h1
   .exact g5 j (by omega) hj2
theorem TP{all:List Oper}{z:List Key}{o:Oper}{e:Env16}{s:S}{e1 e2:Env16}{s1 s2:S}(h1:Dg rc P all z o e s e1 s1)(h2:Dg rc P all z o e s e2 s2):e1=e2/\s1=s2:=by
 rcases h1 with⟨g1,rfl,rfl⟩|⟨g1,v,t,r1,rfl,rfl⟩<;>rcases h2 with⟨g2,rfl,rfl⟩|⟨g2,v2,t2,r2,rfl,rfl⟩
 .exact⟨rfl,rfl⟩
 .rw[g1]at g2;cases g2
 .rw[g1]at g2;cases g2
 .rw[r1]at r2;cases r2;exact⟨rfl,rfl⟩
theorem Oh{all:List Oper}{e e1 e2:Env16}{s s1 s2:S}{es es2:Nat->Env16}{ss ss2:Nat->S}(h1:DrawOk rc P all e s e1 s1 es ss)(h2:DrawOk rc P all e s e2 s2 es2 ss2):e1=e2/\s1=s2:=by
 have key: ∀i,i<=all.length-> ∀j,j<=i->es j=es2 j/\ss j=ss2 j:=by
  intro i
  induction i with
  |zero=>
   intro _ j hj;have:j=0:=by omega
   subst this;exact⟨h1.e0.trans h2.e0.symm,h1.s0.trans h2.s0.symm⟩
  |succ i ih=>
   intro hi j hj;have ih:=ih (by omega);by_cases h:j=i+1
   .subst h
    have a:=h1.step i (by omega);have b:=h2.step i (by omega);rw[(ih i (q5H _)).1,(ih i (q5H _)).2,GF (ss:=ss2) (λk hk=>(ih k (by omega)).2)]at a;exact TP a b
   .exact ih j (by omega)
 have:=key all.length (q5H _) all.length (q5H _);exact⟨h1.en.symm.trans (this.1.trans h2.en),h1.sn.symm.trans (this.2.trans h2.sn)⟩
theorem Ut{nrm:CK γ}{ops:List Oper}{D:Nat}{e' e:Env16}{s:S}(hr:RcLe pr (rg.f c) rc)(hd: ∀o∈ops,∀t,o.dst=some t->t<512)(hst:EK P ops (masks 0 ops [])=true)
  (hag: ∀t,Nat.testBit loc t=false->slot e' t=slot e t)(hdf: ∀t,Nat.testBit D t=true->slot e t≠ .und)(h:(Qf P pr rg loc nrm D ops).f c e' s= .ok v2 s2):
  ∃e1 s1 e1',runD rc P ops e s= .ok .nrm e1 s1/\(∀t,Nat.testBit loc t=false->slot e1' t=slot e1 t)/\zI e e1/\(∀o∈ops,∀t,o.dst=some t->slot e1 t≠ .und)/\nrm.f c e1' s1= .ok v2 s2:=by
 have h:(match Dw P pr rg loc nrm ops (masks 0 ops []) ops 0 Unit [] D [] []with|⟨f⟩=>(⟨λc e s=>tramp (f c () e s)⟩:CK γ)).f c e' s= .ok v2 s2:=h;generalize hk:Dw P pr rg loc nrm ops (masks 0 ops []) ops 0 Unit [] D [] []=q at h;obtain⟨f⟩:=q;have h:(Dw P pr rg loc nrm ops (masks 0 ops []) ops 0 Unit [] D [] []).f c () e' s= .ok v2 s2:=by rw[hk];exact h
 obtain⟨es,ss,e1',g1,g2,g3,g4,g5,g6,g7⟩:=Kl hr hd ops 0 rfl (q64 _) (λ_=>e) (λ_=>s) (G9 hag hdf) ⟨rfl,λu g h=>by simp at h⟩ (λd hd=>by simp at hd) h;have hD:DrawOk rc P ops e s (es ops.length) (ss ops.length) es ss:=⟨(g1 0 (q5H _)).1,(g1 0 (q5H _)).2,rfl,rfl,hst,λi hi=>g5 i (q64 _) hi,g6⟩;have hex: ∃p:Env16×S,∃es ss,DrawOk rc P ops e s p.1 p.2 es ss:=⟨(es ops.length,ss ops.length),es,ss,hD⟩;refine⟨es ops.length,ss ops.length,e1',?_,g2,g3,g4,g7⟩;obtain⟨es0,ss0,hch⟩:=Classical.choose_spec hex;have hu:=Oh hch hD;unfold runD;rw[dif_pos hex,hu.1,hu.2]
theorem Uw{nrm:CK γ}{ops:List Oper}{D:Nat}{e' e:Env16}{s:S}(hr:RcLe pr (rg.f c) rc)(hd: ∀o∈ops,∀t,o.dst=some t->t<512)
  (hag: ∀t,Nat.testBit loc t=false->slot e' t=slot e t)(hdf: ∀t,Nat.testBit D t=true->slot e t≠ .und)(h:(Qi P pr rg loc nrm D ops).f c e' s= .ok v2 s2):
  ∃e1 s1 e1',A6 rc P ops ops e s= .ok .nrm e1 s1/\(∀t,Nat.testBit loc t=false->slot e1' t=slot e1 t)/\zI e e1/\(∀o∈ops,∀t,o.dst=some t->slot e1 t≠ .und)/\nrm.f c e1' s1= .ok v2 s2:=by
 have h:(match C1 P pr rg loc nrm ops ops Unit [] D with|⟨f⟩=>(⟨λc e s=>tramp (f c () e s)⟩:CK γ)).f c e' s= .ok v2 s2:=h;generalize hk:C1 P pr rg loc nrm ops ops Unit [] D=q at h;obtain⟨f⟩:=q;have h:(C1 P pr rg loc nrm ops ops Unit [] D).f c () e' s= .ok v2 s2:=by rw[hk];exact h
 exact I7 hr ops hd (G9 hag hdf) h
end
end
noncomputable section
def vu(P:Program):Code->Bool
 | .region _ ops dr=>!dr||EK P ops.toList (masks 0 ops.toList [])
 | .seq a b=>vu P a&&vu P b
 | .cond _ a b=>vu P a&&vu P b
 | .block _ a=>vu P a
 | .loop a=>vu P a
 | .scope a=>vu P a
 |_=>true
theorem UG{n:Nat}{o:Oper}(h:zi n o=true): ∀t,o.dst=some t->t<512:=λt ht=>by
 unfold zi at h;rw[ht]at h;simp only[q4R]at h;simpa using h.2
theorem Mw{t:Nat}: ∀{l:List Oper}{D:Nat},Nat.testBit (l.foldl (λD o=>skD D o.dst) D) t=true->Nat.testBit D t=true\/ ∃o∈l,o.dst=some t
 |[],D,h=> .inl h
 |o::l,D,h=>by
  rcases Mw (l:=l) h with h|⟨o',h1,h2⟩
  .have h:Nat.testBit (skD D o.dst) t=true:=h
   cases ho:o.dst with
   |none=>rw[ho]at h;exact .inl h
   |some d=>
    rw[ho]at h;have h:Nat.testBit (D|||2^d) t=true:=h;rw[Nat.testBit_or,Nat.testBit_two_pow,Bool.or_eq_true]at h;rcases h with h|h
    .exact .inl h
    .exact .inr ⟨o,by simp,by rw[ho,of_decide_eq_true h]⟩
  .exact .inr ⟨o',by simp[h1],h2⟩
def nxt{γ:Type}(nrm:CK γ)(ex:Exs γ)(ret:CK γ):X->CK γ
 | .nrm=>nrm
 | .ext i=>wu i ex
 | .ret=>ret
theorem Ei{γ:Type}(i:Nat): ∀ex:Exs γ,wu i (ex.map λp=>(p.1,p.2.lift))=(wu i ex).lift
 |[]=>rfl
 |p::r=>by
  show(bif Nat.beq p.1 i then p.2.lift else wu i (r.map λp=>(p.1,p.2.lift)))=CK.lift (bif Nat.beq p.1 i then p.2 else wu i r)
  cases Nat.beq p.1 i with
  |true=>rfl
  |false=>exact Ei i r
theorem Fk{γ:Type}(x:CK γ)(ih:Env16->S->RO)(c:γ)(e:Env16)(s:S):x.lift.f ⟨ih,c⟩ e s=x.f c e s:=by obtain⟨f⟩:=x;rfl
theorem JA{γ:Type}(x:RG γ)(ih:Env16->S->RO)(c:γ):x.lift.f ⟨ih,c⟩=x.f c:=by obtain⟨f⟩:=x;rfl
section
variable {v2:V} {s2:S} {P:Program} {pr:vE} {loc:Nat} {rc:FuncId->List V->S->RO}
def FdOk(P:Program)(pr:vE)(loc:Nat)(rc:FuncId->List V->S->RO)(v2:V)(s2:S)(cd:Code):Prop:=
 ∀(γ:Type)(rg:RG γ)(D:Nat)(nrm:CK γ)(ex:Exs γ)(ret:CK γ)(c:γ)(n:Nat)(e' e:Env16)(s:S),RcLe pr (rg.f c) rc->qV n cd=true->vu P cd=true->
  (∀t,Nat.testBit loc t=false->slot e' t=slot e t)->(∀t,Nat.testBit D t=true->slot e t≠ .und)->((fden P pr loc cd).d γ rg D nrm ex ret).f c e' s= .ok v2 s2->
  ∃x e1 s1 e1',den rc P cd e s= .ok x e1 s1/\(∀t,Nat.testBit loc t=false->slot e1' t=slot e1 t)/\zI e e1/\(x= .nrm-> ∀t,Nat.testBit ((fden P pr loc cd).o D) t=true->slot e1 t≠ .und)/\(nxt nrm ex ret x).f c e1' s1= .ok v2 s2
set_option maxRecDepth 4000 in
theorem Pb{cd:Code}(hcd:FdOk P pr loc rc v2 s2 cd){γ:Type}{rg:RG γ}{D:Nat}{nrm:CK γ}{ex:Exs γ}{ret:CK γ}{c:γ}{n:Nat}(hr:RcLe pr (rg.f c) rc)(hk:qV n cd=true)(hst:vu P cd=true){f:LC γ->Env16->S->RO}
  (hf:(fden P pr loc cd).d (LC γ) rg.lift D ⟨λc e s=>tramp (c.ih e s)⟩ (ex.map λp=>(p.1,p.2.lift)) ret.lift=⟨f⟩): ∀(N:Nat)(e' e:Env16)(s:S),(∀t,Nat.testBit loc t=false->slot e' t=slot e t)->(∀t,Nat.testBit D t=true->slot e t≠ .und)->
  wP (λih e s=>f ⟨ih,c⟩ e s) N e' s= .ok v2 s2->
  ∃x e1 s1 e1',BS (den rc P cd) N e s= .ok x e1 s1/\x≠ .nrm/\(∀t,Nat.testBit loc t=false->slot e1' t=slot e1 t)/\zI e e1/\(nxt nrm ex ret x).f c e1' s1= .ok v2 s2
 |0,e',e,s,hag,hdf,h=>by cases h
 |N+1,e',e,s,hag,hdf,h=>by
  have h:f ⟨wP (λih e s=>f ⟨ih,c⟩ e s) N,c⟩ e' s= .ok v2 s2:=h;obtain⟨x,e1,s1,e1',h1,h2,h3,h4,h5⟩:=hcd (LC γ) rg.lift D _ _ _ ⟨wP (λih e s=>f ⟨ih,c⟩ e s) N,c⟩ n e' e s (by rw[JA];exact hr) hk hst hag hdf (by rw[hf];exact h);have e0:BS (den rc P cd) (N+1) e s=LL (BS (den rc P cd) N) (den rc P cd e s):=rfl;rw[e0,h1]
  cases x with
  |nrm=>
   obtain⟨x,e3,s3,e3',g1,g2,g3,g4,g5⟩:=Pb hcd hr hk hst hf N e1' e1 s1 h2 (λt ht=>h3 t (hdf t ht)) h5;exact⟨x,e3,s3,e3',g1,g2,g3,λt ht=>g4 t (h3 t ht),g5⟩
  |ext i=>
   refine⟨_,e1,s1,e1',rfl,by simp,h2,h3,?_⟩;have h5:(wu i (ex.map λp=>(p.1,p.2.lift))).f _ e1' s1= .ok v2 s2:=h5;rw[Ei,Fk]at h5;exact h5
  |ret=>
   refine⟨_,e1,s1,e1',rfl,by simp,h2,h3,?_⟩;have h5:ret.lift.f _ e1' s1= .ok v2 s2:=h5;rw[Fk]at h5;exact h5
def FdF(P:Program)(pr:vE)(loc:Nat)(rc:FuncId->List V->S->RO)(v2:V)(s2:S)(cd:Code)(g:Den)(f:Env16->S->R):Prop:=
 ∀(γ:Type)(rg:RG γ)(D:Nat)(nrm:CK γ)(ex:Exs γ)(ret:CK γ)(c:γ)(n:Nat)(e' e:Env16)(s:S),RcLe pr (rg.f c) rc->qV n cd=true->vu P cd=true->
  (∀t,Nat.testBit loc t=false->slot e' t=slot e t)->(∀t,Nat.testBit D t=true->slot e t≠ .und)->(g γ rg D nrm ex ret).f c e' s= .ok v2 s2->
  ∃x e1 s1 e1',f e s= .ok x e1 s1/\(∀t,Nat.testBit loc t=false->slot e1' t=slot e1 t)/\zI e e1/\(nxt nrm ex ret x).f c e1' s1= .ok v2 s2
def FrF(P:Program)(pr:vE)(loc:Nat)(rc:FuncId->List V->S->RO)(v2:V)(s2:S)(cd:Code):Prop:= ∀l,match(fden P pr loc cd).f l with
 |some g=> ∃f,(jX rc P cd).fr l=some f/\FdF P pr loc rc v2 s2 cd g f
 |none=>(jX rc P cd).fr l=none
theorem Yw{a b:Code}(ha:FrF P pr loc rc v2 s2 a)(hb:FrF P pr loc rc v2 s2 b)(hd:FdOk P pr loc rc v2 s2 b):FrF P pr loc rc v2 s2 (.seq a b):=λl=>by
 have ha:=ha l;have hb:=hb l;have e1:(fden P pr loc (.seq a b)).f l=(match(fden P pr loc a).f l with|some g=>some (λγ rg D nrm ex ret=>g γ rg D ((fden P pr loc b).d γ rg D nrm ex ret) ex ret)|none=>(fden P pr loc b).f l):=rfl;have e2:(jX rc P (.seq a b)).fr l=(match(jX rc P a).fr l with|some f=>some (λe s=>BW (f e s) (jX rc P b).st)|none=>(jX rc P b).fr l):=rfl;rw[e1,e2]
 cases hga:(fden P pr loc a).f l with
 |some g=>
  rw[hga]at ha;obtain⟨f,h1,h2⟩:=ha;rw[h1];refine⟨_,rfl,λγ rg D nrm ex ret c n e' e s hr hk hst hag hdf h=>?_⟩;simp only[qV,q4R]at hk;simp only[vu,q4R]at hst;obtain⟨x,e1,s1,e1',g1,g2,g3,g5⟩:=h2 γ rg D _ ex ret c n e' e s hr hk.1 hst.1 hag hdf h;show∃x e1 s1 e1',BW (f e s) (jX rc P b).st= .ok x e1 s1/\_;rw[g1]
  cases x with
  |nrm=>
   obtain⟨x,e3,s3,e3',k1,k2,k3,k4,k5⟩:=hd γ rg D nrm ex ret c n e1' e1 s1 hr hk.2 hst.2 g2 (λt ht=>g3 t (hdf t ht)) g5;exact⟨x,e3,s3,e3',k1,k2,λt ht=>k3 t (g3 t ht),k5⟩
  |ext i=>exact⟨_,e1,s1,e1',rfl,g2,g3,g5⟩
  |ret=>exact⟨_,e1,s1,e1',rfl,g2,g3,g5⟩
 |none=>
  rw[hga]at ha;have ha:(jX rc P a).fr l=none:=ha;rw[ha]
  show match(fden P pr loc b).f l with
   |some g=> ∃f,(jX rc P b).fr l=some f/\FdF P pr loc rc v2 s2 (.seq a b) g f
   |none=>(jX rc P b).fr l=none
  cases hgb:(fden P pr loc b).f l with
  |some g=>
   rw[hgb]at hb;obtain⟨f,h1,h2⟩:=hb;refine⟨f,h1,λγ rg D nrm ex ret c n e' e s hr hk hst hag hdf h=>?_⟩;simp only[qV,q4R]at hk;simp only[vu,q4R]at hst;exact h2 γ rg D nrm ex ret c n e' e s hr hk.2 hst.2 hag hdf h
  |none=>rw[hgb]at hb;exact hb
theorem S6(l':Nat):FrF P pr loc rc v2 s2 (.label l'):=λl=>by
 have e1:(fden P pr loc (.label l')).f l=bif Nat.beq l' l then some (λ_ _ _ nrm _ _=>nrm)else none:=rfl
 have e2:(jX rc P (.label l')).fr l=bif Nat.beq l' l then some (λe s=> .ok .nrm e s)else none:=rfl
 rw[e1,e2]
 cases Nat.beq l' l with
 |true=>exact⟨_,rfl,λγ rg D nrm ex ret c n e' e s hr hk hst hag hdf h=>⟨.nrm,e,s,e',rfl,hag,λt h=>h,h⟩⟩
 |false=>rfl
theorem Mt{γ:Type}{i:Nat}(hi:1048576<=i): ∀{ex:Exs γ},noG ex=true->wu i ex=badK
 |[],_=>rfl
 |p::r,h=>by
  have h:(Nat.blt p.1 1048576&&noG r)=true:=h;rw[q4R]at h;show(bif Nat.beq p.1 i then p.2 else wu i r)=badK;have h1:=h.1;simp only[Nat.blt_eq]at h1
  cases hb:Nat.beq p.1 i with
  |true=>have:=q5C hb;omega
  |false=>exact Mt hi h.2
set_option maxRecDepth 4000 in
theorem OW{cd:Code}{γ:Type}{rg:RG γ}{D l:Nat}{nrm:CK γ}{ex:Exs γ}{ret:CK γ}{c:γ}{n:Nat}{g:Den}{f:Env16->S->R}(hg:FdF P pr loc rc v2 s2 cd g f){fr:Nat->Option (Env16->S->R)}(hfr:fr l=some f)(hno:noG ex=true)
  (hr:RcLe pr (rg.f c) rc)(hk:qV n cd=true)(hst:vu P cd=true){f1:LC γ->Env16->S->RO}(hf:g (LC γ) rg.lift D nrm.lift (exG l ex) ret.lift=⟨f1⟩): ∀(N:Nat)(x:X)(e0 e' e:Env16)(s:S),(∀t,Nat.testBit loc t=false->slot e' t=slot e t)->
  (∀t,Nat.testBit D t=true->slot e0 t≠ .und)->zI e0 e->(nxt nrm.lift (exG l ex) ret.lift x).f ⟨wP (λih e s=>f1 ⟨ih,c⟩ e s) N,c⟩ e' s= .ok v2 s2->
  ∃y e1 s1 e1',hopN fr (N+1) (.ok x e s)= .ok y e1 s1/\(∀t,Nat.testBit loc t=false->slot e1' t=slot e1 t)/\zI e0 e1/\(nxt nrm ex ret y).f c e1' s1= .ok v2 s2
 |N,.nrm,e0,e',e,s,hag,hdf,hkp,h=>by
  have h:nrm.lift.f _ e' s= .ok v2 s2:=h;rw[Fk]at h;exact⟨.nrm,e,s,e',rfl,hag,hkp,h⟩
 |N,.ret,e0,e',e,s,hag,hdf,hkp,h=>by
  have h:ret.lift.f _ e' s= .ok v2 s2:=h;rw[Fk]at h;exact⟨.ret,e,s,e',rfl,hag,hkp,h⟩
 |N,.ext i,e0,e',e,s,hag,hdf,hkp,h=>by
  have h:(bif Nat.beq (1048576+l) i then(⟨λc e s=>tramp (c.ih e s)⟩:CK (LC γ))else wu i (ex.map λp=>(p.1,p.2.lift))).f _ e' s= .ok v2 s2:=h;have hop: ∀N,hopN fr (N+1) (.ok (.ext i) e s)= @Bool.rec (λ_=>R) (.ok (.ext i) e s) (match fr (Nat.sub i 1048576)with|some f=>hopN fr N (f e s)|none=> .ok (.ext i) e s) (Nat.ble 1048576 i):=λ_=>rfl
  cases hb:Nat.beq (1048576+l) i with
  |true=>
   rw[hb]at h;have hi:=q5C hb;have h:wP (λih e s=>f1 ⟨ih,c⟩ e s) N e' s= .ok v2 s2:=h
   cases N with
   |zero=>cases h
   |succ N=>
    have h:f1 ⟨wP (λih e s=>f1 ⟨ih,c⟩ e s) N,c⟩ e' s= .ok v2 s2:=h;obtain⟨x2,e2,s2',e2',k1,k2,k3,k5⟩:=hg (LC γ) rg.lift D _ _ _ ⟨wP (λih e s=>f1 ⟨ih,c⟩ e s) N,c⟩ n e' e s (by rw[JA];exact hr) hk hst hag (λt ht=>hkp t (hdf t ht)) (by rw[hf];exact h);obtain⟨x3,e3,s3,e3',q1,q2,q3,q4⟩:=OW hg hfr hno hr hk hst hf N x2 e0 e2' e2 s2' k2 hdf (λt ht=>k3 t (hkp t ht)) k5;refine⟨x3,e3,s3,e3',?_,q2,q3,q4⟩;have e5:Nat.sub i 1048576=l:=by rw[<-hi];exact Nat.add_sub_cancel_left 1048576 l
    rw[hop,show Nat.ble 1048576 i=true from Nat.ble_eq_true_of_le (by omega),e5,hfr];show hopN fr (N+1) (f e s)=_;rw[k1];exact q1
  |false=>
   rw[hb]at h;have h:(wu i (ex.map λp=>(p.1,p.2.lift))).f _ e' s= .ok v2 s2:=h;rw[Ei,Fk]at h;by_cases hi:1048576<=i
   .rw[Mt hi hno]at h;cases h
   .refine⟨.ext i,e,s,e',?_,hag,hkp,h⟩
    have:Nat.ble 1048576 i=false:=by
     cases h3:Nat.ble 1048576 i with
     |false=>rfl
     |true=>exact absurd (q5E h3) hi
    rw[hop,this]
theorem denS(c:Code)(e:Env16)(s:S):den rc P (.scope c) e s=hopN (jX rc P c).fr 1000001 (den rc P c e s):=Ko c e s
theorem zo: ∀cd:Code,FdOk P pr loc rc v2 s2 cd/\FrF P pr loc rc v2 s2 cd
 | .skip=>⟨λγ rg D nrm ex ret c n e' e s hr hk hst hag hdf h=>⟨.nrm,e,s,e',rfl,hag,λt h=>h,λ_=>hdf,h⟩,λl=>rfl⟩
 | .region id ops dr=>⟨λγ rg D nrm ex ret c n e' e s hr hk hst hag hdf h=>(by
  have hd: ∀o∈ops.toList,∀t,o.dst=some t->t<512:=λo ho=>UG (List.all_eq_true.1 (show ops.toList.all (zi n)=true from hk) o ho)
  have fin: ∀e1:Env16,zI e e1->(∀o∈ops.toList,∀t,o.dst=some t->slot e1 t≠ .und)-> ∀t,Nat.testBit (ops.toList.foldl (λD o=>skD D o.dst) D) t=true->slot e1 t≠ .und:=λe1 h1 h2 t ht=>by
   rcases Mw ht with h|⟨o,h3,h4⟩
   .exact h1 t (hdf t h)
   .exact h2 o h3 t h4
  cases dr with
  |false=>
   have h:(Qi P pr rg loc nrm D ops.toList).f c e' s= .ok v2 s2:=h;obtain⟨e1,s1,e1',h1,h2,h3,h4,h5⟩:=Uw hr hd hag hdf h;exact⟨.nrm,e1,s1,e1',h1,h2,h3,λ_=>fin e1 h3 h4,h5⟩
  |true=>
   have h:(Qf P pr rg loc nrm D ops.toList).f c e' s= .ok v2 s2:=h;have hst:EK P ops.toList (masks 0 ops.toList [])=true:=hst;obtain⟨e1,s1,e1',h1,h2,h3,h4,h5⟩:=Ut hr hd hst hag hdf h
   exact⟨.nrm,e1,s1,e1',h1,h2,h3,λ_=>fin e1 h3 h4,h5⟩),λl=>rfl⟩
 | .seq a b=>⟨λγ rg D nrm ex ret c n e' e s hr hk hst hag hdf h=>(by
  simp only[qV,q4R]at hk;simp only[vu,q4R]at hst;have h:((fden P pr loc a).d γ rg D ((fden P pr loc b).d γ rg ((fden P pr loc a).o D) nrm ex ret) ex ret).f c e' s= .ok v2 s2:=h;obtain⟨x,e1,s1,e1',h1,h2,h3,h4,h5⟩:=(zo a).1 γ rg D _ ex ret c n e' e s hr hk.1 hst.1 hag hdf h;have e0:den rc P (.seq a b) e s=BW (den rc P a e s) (den rc P b):=rfl;rw[e0,h1]
  cases x with
  |nrm=>
   obtain⟨x,e3,s3,e3',g1,g2,g3,g4,g5⟩:=(zo b).1 γ rg _ nrm ex ret c n e1' e1 s1 hr hk.2 hst.2 h2 (h4 rfl) h5;exact⟨x,e3,s3,e3',g1,g2,λt ht=>g3 t (h3 t ht),g4,g5⟩
  |ext i=>exact⟨_,e1,s1,e1',rfl,h2,h3,λh=>(by cases h),h5⟩
  |ret=>exact⟨_,e1,s1,e1',rfl,h2,h3,λh=>(by cases h),h5⟩),Yw (zo a).2 (zo b).2 (zo b).1⟩
 | .cond x a b=>⟨λγ rg D nrm ex ret c n e' e s hr hk hst hag hdf h=>(by
  simp only[qV,q4R]at hk;simp only[vu,q4R]at hst
  have h:(match gv (α:=Unit) loc D [] x,(fden P pr loc a).d γ rg D nrm ex ret,(fden P pr loc b).d γ rg D nrm ex ret with
   |some ⟨g⟩,⟨fa⟩,⟨fb⟩=>(⟨λc e s=>qB (g () e) λb=> @Bool.rec (λ_=>RO) (fb c e s) (fa c e s) b⟩:CK γ)
   |none,_,_=>badK).f c e' s= .ok v2 s2:=h
  split at h
  .rename_i _ _ _ g fa fb hg hfa hfb
   obtain⟨t,h1,h2⟩:=R0 (show qB (g () e') _= .ok v2 s2 from h);have hx:g () e'=qb e x:=qH hg (G9 hag hdf);rw[hx]at h1;have e0:den rc P (.cond x a b) e s=Lr (qb e x) (den rc P a) (den rc P b) e s:=rfl;rw[e0,h1]
   cases t with
   |true=>
    obtain⟨x,e1,s1,e1',h1,h2,h3,h4,h5⟩:=(zo a).1 γ rg D nrm ex ret c n e' e s hr hk.1 hst.1 hag hdf (by rw[hfa];exact h2);exact⟨x,e1,s1,e1',h1,h2,h3,λ_ t ht=>h3 t (hdf t ht),h5⟩
   |false=>
    obtain⟨x,e1,s1,e1',h1,h2,h3,h4,h5⟩:=(zo b).1 γ rg D nrm ex ret c n e' e s hr hk.2 hst.2 hag hdf (by rw[hfb];exact h2);exact⟨x,e1,s1,e1',h1,h2,h3,λ_ t ht=>h3 t (hdf t ht),h5⟩
  .cases h),λl=>rfl⟩
 | .block id a=>⟨λγ rg D nrm ex ret c n e' e s hr hk hst hag hdf h=>(by
  have hk:(Nat.blt id 1048576&&qV n a)=true:=hk;have hk:qV n a=true:=by rw[q4R]at hk;exact hk.2
  have hst:vu P a=true:=hst;have h:((fden P pr loc a).d γ rg D nrm ((id,nrm)::ex) ret).f c e' s= .ok v2 s2:=h;obtain⟨x,e1,s1,e1',h1,h2,h3,h4,h5⟩:=(zo a).1 γ rg D nrm _ ret c n e' e s hr hk hst hag hdf h;have e0:den rc P (.block id a) e s=HY id (den rc P a e s):=rfl;rw[e0,h1];have hD: ∀t,Nat.testBit D t=true->slot e1 t≠ .und:=λt ht=>h3 t (hdf t ht)
  cases x with
  |nrm=>exact⟨.nrm,e1,s1,e1',rfl,h2,h3,λ_=>hD,h5⟩
  |ret=>exact⟨.ret,e1,s1,e1',rfl,h2,h3,λ_=>hD,h5⟩
  |ext i=>
   have h5:(bif Nat.beq id i then nrm else wu i ex).f c e1' s1= .ok v2 s2:=h5;show∃x e2 s2' e1'_1,@Bool.rec (λ_=>R) (.ok (.ext i) e1 s1) (.ok .nrm e1 s1) (Nat.beq i id)= .ok x e2 s2'/\_
   cases hb:Nat.beq i id with
   |true=>
    have:=q5C hb;subst this;rw[hb]at h5;exact⟨.nrm,e1,s1,e1',rfl,h2,h3,λ_=>hD,h5⟩
   |false=>
    have hb2:Nat.beq id i=false:=by
     cases h:Nat.beq id i with
     |false=>rfl
     |true=>rw[q5C h]at hb;simp at hb
    rw[hb2]at h5
    exact⟨.ext i,e1,s1,e1',rfl,h2,h3,λ_=>hD,h5⟩),λl=>rfl⟩
 | .loop a=>⟨λγ rg D nrm ex ret c n e' e s hr hk hst hag hdf h=>(by
  have hk:qV n a=true:=hk;have hst:vu P a=true:=hst
  have h:(match(fden P pr loc a).d (LC γ) rg.lift D ⟨λc e s=>tramp (c.ih e s)⟩ (ex.map λ(p:Nat×CK γ)=>(p.1,p.2.lift)) ret.lift with
   |⟨f⟩=>(⟨λc e s=>wP (λih e s=>f ⟨ih,c⟩ e s) 1000000 e s⟩:CK γ)).f c e' s= .ok v2 s2:=h
  generalize hf:(fden P pr loc a).d (LC γ) rg.lift D ⟨λc e s=>tramp (c.ih e s)⟩ (ex.map λ(p:Nat×CK γ)=>(p.1,p.2.lift)) ret.lift=q at h;obtain⟨f⟩:=q;have h:wP (λih e s=>f ⟨ih,c⟩ e s) 1000000 e' s= .ok v2 s2:=h;obtain⟨x,e1,s1,e1',h1,h2,h3,h4,h5⟩:=Pb (nrm:=nrm) (zo a).1 hr hk hst hf 1000000 e' e s hag hdf h
  exact⟨x,e1,s1,e1',by rw[Ml];exact h1,h3,h4,λh=>absurd h h2,h5⟩),λl=>rfl⟩
 | .exit id=>⟨λγ rg D nrm ex ret c n e' e s hr hk hst hag hdf h=>⟨.ext id,e,s,e',rfl,hag,λt h=>h,λ_=>hdf,h⟩,λl=>rfl⟩
 | .label l=>⟨λγ rg D nrm ex ret c n e' e s hr hk hst hag hdf h=>⟨.nrm,e,s,e',rfl,hag,λt h=>h,λ_=>hdf,h⟩,S6 l⟩
 | .rangeFunc .. =>⟨λγ rg D nrm ex ret c n e' e s hr hk hst hag hdf h=>(by cases h),λl=>rfl⟩
 | .goto l=>⟨λγ rg D nrm ex ret c n e' e s hr hk hst hag hdf h=>⟨.ext (1048576+l),e,s,e',rfl,hag,λt h=>h,λ_=>hdf,h⟩,λl=>rfl⟩
 | .scope a=>⟨λγ rg D nrm ex ret c n e' e s hr hk hst hag hdf h=>(by
  have hk:qV n a=true:=hk;have hst:vu P a=true:=hst
  have h:(match(generalizing:=false) labC a with
   |some l=>(match(generalizing:=false) (fden P pr loc a).f l with
    |some g=>scK (noG ex) ((fden P pr loc a).d (LC γ) rg.lift D nrm.lift (exG l ex) ret.lift) (g (LC γ) rg.lift D nrm.lift (exG l ex) ret.lift)
    |none=>badK)
   |none=>badK).f c e' s= .ok v2 s2:=h
  split at h
  .rename_i l _
   have hfl:=(zo a).2 l;split at h
   .rename_i g hg
    rw[hg]at hfl;obtain⟨f,h1,h2⟩:=hfl
    cases hno:noG ex with
    |false=>rw[hno]at h;cases h
    |true=>
     rw[hno]at h;generalize hf0:(fden P pr loc a).d (LC γ) rg.lift D nrm.lift (exG l ex) ret.lift=q0 at h;generalize hf1:g (LC γ) rg.lift D nrm.lift (exG l ex) ret.lift=q1 at h;obtain⟨f0⟩:=q0;obtain⟨f1⟩:=q1;have h:f0 ⟨wP (λih e s=>f1 ⟨ih,c⟩ e s) 1000000,c⟩ e' s= .ok v2 s2:=h;obtain⟨x,e1,s1,e1',g1,g2,g3,g4,g5⟩:=(zo a).1 (LC γ) rg.lift D _ _ _ ⟨wP (λih e s=>f1 ⟨ih,c⟩ e s) 1000000,c⟩ n e' e s (by rw[JA];exact hr) hk hst hag hdf (by rw[hf0];exact h);obtain⟨y,e2,s2',e2',k1,k2,k3,k4⟩:=OW h2 h1 hno hr hk hst hf1 1000000 x e e1' e1 s1 g2 hdf g3 g5;refine⟨y,e2,s2',e2',?_,k2,k3,λ_ t ht=>k3 t (hdf t ht),k4⟩;rw[denS,g1];exact k1
   .cases h
  .cases h),λl=>rfl⟩
 | .refuse _=>⟨λγ rg D nrm ex ret c n e' e s hr hk hst hag hdf h=>(by cases h),λl=>rfl⟩
 | .ret=>⟨λγ rg D nrm ex ret c n e' e s hr hk hst hag hdf h=>⟨.ret,e,s,e',rfl,hag,λt h=>h,λ_=>hdf,h⟩,λl=>rfl⟩
theorem Yq(cd:Code):FdOk P pr loc rc v2 s2 cd:=(zo cd).1
end
end
noncomputable section
section
variable {v2:V} {s2:S} {P:Program} {pr:vE} {loc:Nat} {rc:FuncId->List V->S->RO}
theorem PC{r:ResultVar}{g:RV}{e' e:Env16}{s:S}{K:V->RO}(hc:resC P loc r=some g)(hag: ∀t,Nat.testBit loc t=false->slot e' t=slot e t)(h:g.f e' s K= .ok v2 s2):isC (vm P e s.m r)=true/\K (vm P e s.m r)= .ok v2 s2:=by
 have hi:Inv loc 0 ([]:Mp Unit) () e' e:=G9 hag (λt h=>by simp at h)
 cases r with
 |tmp t=>
  unfold resC at hc;simp only at hc;split at hc
  .rename_i gg hg
   cases hc;have hx:gg () e'=slot e t:=qH hg hi;have h:=R3 (show qK (gg () e') K= .ok v2 s2 from h);rw[hx]at h;exact h
  .cases hc
 |cell a t=>
  unfold resC at hc;simp only at hc;split at hc
  .rename_i gg g0 sz hg hs
   cases hb:(g0||Nat.beq sz 1)with
   |false=>rw[hb]at hc;cases hc
   |true=>
    rw[hb]at hc;cases hc;have hx:gg () e'=slot e a:=qH hg hi;have hsz:g0=false->sz=1:=λh=>by rw[h,Bool.false_or]at hb;exact q5C hb
    obtain⟨u,ks,h1,h2,h3⟩:=Vn (P:=P) hs hsz (show BR g0 sz s.m (gg () e') (λv=>qK v K)= .ok v2 s2 from h);rw[hx]at h3;have h4:=R3 h2;show isC (v4 P s.m t (slot e a)).res=true/\K (v4 P s.m t (slot e a)).res=_;rw[h3];exact h4
  .cases hc
theorem PD{e' e:Env16}{s:S}(hag: ∀t,Nat.testBit loc t=false->slot e' t=slot e t): ∀{l:List ResultVar}{g:RL}{K:List V->RO},resL P loc l=some g->g.f e' s K= .ok v2 s2->(l.map (vm P e s.m)).all isC=true/\K (l.map (vm P e s.m))= .ok v2 s2
 |[],g,K,hc,h=>by cases hc;exact⟨rfl,h⟩
 |r::l,g,K,hc,h=>by
  unfold resL at hc;split at hc
  .rename_i g1 g2 h1 h2
   cases hc;obtain⟨k1,k2⟩:=PC h1 hag (show g1 e' s _= .ok v2 s2 from h);obtain⟨k3,k4⟩:=PD hag h2 (show g2 e' s _= .ok v2 s2 from k2);exact⟨by rw[q5h,List.all_cons,k1,k3];rfl,k4⟩
  .cases hc
theorem ZI{γ:Type}{c:γ}{l:List ResultVar}{e' e:Env16}{s:S}(hag: ∀t,Nat.testBit loc t=false->slot e' t=slot e t)(h:(retC P loc l).f c e' s= .ok v2 s2):v2≠ .und/\retA s (l.map (vm P e s.m))= .ok v2 s2:=by
 have many: ∀l:List ResultVar,l.length≠1->(match resL P loc l with|some ⟨g⟩=>(⟨λ_ e s=>g e s λl=> .ok (.tu l) s⟩:CK γ)|none=>badK).f c e' s= .ok v2 s2->v2≠ .und/\retA s (l.map (vm P e s.m))= .ok v2 s2:=by
  intro l hl h;split at h
  .rename_i g hg
   obtain⟨k1,k2⟩:=PD hag hg (show g e' s _= .ok v2 s2 from h);have k2:RO.ok (.tu (l.map (vm P e s.m))) s= .ok v2 s2:=k2;injection k2 with a b
   subst a;subst b
   refine⟨by simp,?_⟩;unfold retA;rw[k1];show retL s (l.map (vm P e s.m))=_;unfold retL;split
   .rename_i v hv
    have:=congrArg List.length hv;rw[q5e]at this;exact absurd this hl
   .rfl
  .cases h
 match l,h with
 |[],h=>exact many [] (by simp) h
 |[r],h=>
  have h:(match resC P loc r with|some ⟨g⟩=>(⟨λ_ e s=>g e s λv=> .ok v s⟩:CK γ)|none=>badK).f c e' s= .ok v2 s2:=h;split at h
  .rename_i g hg
   obtain⟨k1,k2⟩:=PC hg hag (show g e' s _= .ok v2 s2 from h);have k2:RO.ok (vm P e s.m r) s= .ok v2 s2:=k2;injection k2 with a b
   subst a;subst b
   refine⟨λe2=>(by rw[e2]at k1;cases k1),?_⟩;unfold retA;show @Bool.rec (λ_=>RO) _ _ (isC (vm P e s.m r)&&true)=_;rw[k1];rfl
  .cases h
 |a::b::r,h=>exact many (a::b::r) (by simp) h
theorem Nq{w:Row}{n:Nat}(h:n<=16):(rowL w n).length=n:=by
 unfold rowL;rw[q5g];show min n 16=n;omega
theorem q10{tb:FuncId->Nat}(Hst: ∀(f:FuncId) fn c,P.funcs[f]?=some fn->fn.body=some c->vu P c=true){n:Nat}{ih:Rc}(hr:RcLe pr ih.call (E6 P pr n)){f:FuncId}{w:Row}{k:Nat}{s s':S}{v:V}(h:(fnC P pr tb f).g ih w k s= .ok v s'):
  k<=16/\((jF (rowL w k)).c0=w->(∀x∈rowL w k,x≠ .und)->v≠ .und/\E6 P pr (n+1) f (rowL w k) s= .ok v s'):=by
 have e0: ∀vs s,E6 P pr (n+1) f vs s=(match pr f with
   |some g=>addT f (g vs s)
   |none=>(match P.funcs[f]? with
    |some fn=>(match fn.body with
     |some c=> @Bool.rec (λ_=>RO) (.no [17]) (addT f (retR P fn.results.toList (den (E6 P pr n) P c (jF vs) s))) (qV fn.ntmps c&&Nat.ble vs.length 16&&Nat.ble vs.length fn.ntmps&&BA fn)
     |none=> .no [15])
    |none=> .no [16])):=λ_ _=>rfl
 rw[e0];unfold fnC at h;split at h
 .rename_i g hg
  obtain⟨h1,h2⟩:=zm (show @Bool.rec (λ_=>RO) (.no [17]) (roK (g (rowL w k) s) λv s=>qF v λv=> .ok v s) (Nat.ble k 16)= .ok v s' from h);obtain⟨v1,s1,h3,h4⟩:=DS h2;obtain⟨h5,h6⟩:=wS h4;cases h6;refine⟨q5E h1,λ_ _=>⟨h5,?_⟩⟩;rw[hg];show addT f (g (rowL w k) s)=_;rw[h3];rfl
 .rename_i hpr
  rw[hpr];simp only;split at h
  .rename_i fn hfn
   split at h
   .rename_i c hc
    cases hk:(qV fn.ntmps c&&BA fn)with
    |false=>rw[hk]at h;cases h
    |true=>
     rw[hk,cond_true]at h;simp only[q4R]at hk
     have h:(match(fden P pr (tb f) c).d Rc Lk (2^fn.params.size-1) (retC P (tb f) fn.results.toList) [] (retC P (tb f) fn.results.toList)with
      |⟨run⟩=>(⟨λrc w n s=> @Bool.rec (λ_=>RO) (.no [17]) (run rc ⟨⟨w,qy,qy,qy,qy,qy,qy,qy,qy,qy,qy,qy,qy,qy,qy,qy⟩,hiU⟩ s) (jf (Nat.ble n (Nat.min 16 fn.ntmps)) (Nat.ble fn.params.size n))⟩:FnC)).g ih w k s= .ok v s':=h
     generalize hrun:(fden P pr (tb f) c).d Rc Lk (2^fn.params.size-1) (retC P (tb f) fn.results.toList) [] (retC P (tb f) fn.results.toList)=q at h;obtain⟨run⟩:=q;obtain⟨h1,h2⟩:=zm (show @Bool.rec (λ_=>RO) (.no [17]) (run ih ⟨⟨w,qy,qy,qy,qy,qy,qy,qy,qy,qy,qy,qy,qy,qy,qy,qy⟩,hiU⟩ s) (jf (Nat.ble k (Nat.min 16 fn.ntmps)) (Nat.ble fn.params.size k))= .ok v s' from h);rw[jy]at h1;have hk16:k<=Nat.min 16 fn.ntmps:=q5E h1.1;have hp:fn.params.size<=k:=q5E h1.2;have k16:k<=16:=q5I hk16 (Nat.min_le_left _ _);have knt:k<=fn.ntmps:=q5I hk16 (Nat.min_le_right _ _);refine⟨k16,λhw hvs=>?_⟩
     have hE:(⟨⟨w,qy,qy,qy,qy,qy,qy,qy,qy,qy,qy,qy,qy,qy,qy,qy⟩,hiU⟩:Env16)=jF (rowL w k):=by
      have:jF (rowL w k)=⟨⟨(jF (rowL w k)).c0,qy,qy,qy,qy,qy,qy,qy,qy,qy,qy,qy,qy,qy,qy,qy⟩,hiU⟩:=rfl;rw[this,hw]
     rw[hE]at h2
     have hdf: ∀t,Nat.testBit (2^fn.params.size-1) t=true->slot (jF (rowL w k)) t≠ .und:=λt ht=>by
      rw[Nat.testBit_two_pow_sub_one]at ht;have ht:=of_decide_eq_true ht;have hlen:=Nq (w:=w) k16;rw[EI,if_pos (by omega)];have hlt:t<(rowL w k).length:=by omega
      rw[Hm (q57 hlt)];exact hvs _ (List.getElem_mem hlt)
     obtain⟨x,e1,s1,e1',g1,g2,g3,g4,g5⟩:=Yq (v2:=v) (s2:=s') c Rc Lk (2^fn.params.size-1) _ [] _ ih fn.ntmps _ (jF (rowL w k)) s hr hk.1 (Hst f fn c hfn hc) (λt _=>rfl) hdf (by rw[hrun];exact h2)
     have hret: ∀y:X,y= .nrm\/y= .ret->(retC P (tb f) fn.results.toList).f ih e1' s1= .ok v s'->v≠ .und/\retR P fn.results.toList (.ok y e1 s1)= .ok v s':=λy hy h=>by
      obtain⟨k1,k2⟩:=ZI g2 h;refine⟨k1,?_⟩;rcases hy with rfl|rfl<;>exact k2
     have hfin:v≠ .und/\retR P fn.results.toList (.ok x e1 s1)= .ok v s':=by
      cases x with
      |nrm=>exact hret _ (.inl rfl) g5
      |ret=>exact hret _ (.inr rfl) g5
      |ext i=>cases g5
     refine⟨hfin.1,?_⟩;rw[hfn];simp only;rw[hc];simp only;rw[Nq k16,hk.1,hk.2,Nat.ble_eq_true_of_le k16,Nat.ble_eq_true_of_le knt,g1];show addT f (retR P fn.results.toList (.ok x e1 s1))=_;rw[hfin.2];rfl
   .cases h
  .cases h
theorem M6{tb:FuncId->Nat}(Hst: ∀(f:FuncId) fn c,P.funcs[f]?=some fn->fn.body=some c->vu P c=true): ∀n,RcLe pr (Ln P pr tb n).call (E6 P pr (n+1))
 |0=>⟨λf w k s v s' h=>(by cases h),λf g hg vs s v s' h=>by
   show(match pr f with|some g=>addT f (g vs s)|none=>_)=_
   rw[hg];simp only;rw[h];rfl⟩
 |n+1=>⟨λf w k s v s' h=>q10 Hst (M6 Hst n) h,λf g hg vs s v s' h=>by
   show(match pr f with|some g=>addT f (g vs s)|none=>_)=_
   rw[hg];simp only;rw[h];rfl⟩
theorem M7{D:List Int}{tb:FuncId->Nat}(Hst: ∀(f:FuncId) fn c,P.funcs[f]?=some fn->fn.body=some c->vu P c=true)(hp:LQ D P pr)(hm:P.follows .mixedOrders=true){n:Nat}{f:FuncId}{vs:List V}{s s':S}{v:V}
  (h:(Ln P pr tb n).call f (jF vs).c0 vs.length s= .ok v s')(hvs: ∀x∈vs,x.ok/\x≠ .und)(hs:SOK D s):CallOk D P f vs s v s':=by
 obtain⟨h1,h2⟩:=(M6 (pr:=pr) (tb:=tb) Hst n).code _ _ _ _ _ _ h;rw[Ht h1]at h2;obtain⟨_,h4⟩:=h2 rfl λx hx=>(hvs x hx).2
 exact M5 hp hm (n+1) f vs s v s' h4 hvs hs
end
end
noncomputable section
section
variable {D:List Int} {P:Program}
theorem B5{f:FuncId}{vs:List V}{v:V}{s:S}(h:Sig P f (vs.map (qp D)) (qp D v))(hs:SOK D s)(hv:v.ok)(hne:v≠ .und):CallOk D P f vs s v s:=by
 refine⟨h.1,hs,q5H _,hv,hne,λk hk=> .inl hk,λus w H β hargs hM hon hdom=>?_⟩;refine Calls.mono (h.2 us w H β hargs (λp hp=>by simp at hp) (λp hp=>by simp at hp) hon) ?_
 rintro e w' ⟨u,H',β',rfl,hst,hsat,_⟩
 have hb:β'=β:=by funext k;exact hst.beta k (by simp[qt])
 subst hb;have hkeep: ∀b,b<w.heap.size->w'.heap[b]?=w.heap[b]?:=λb hb=>hst.keep b hb λk hk=>by simp[kwOf]at hk
 refine⟨u,H',β',rfl,⟨hst.os,hst.tape,hst.output,hst.size,λb hb _=>hkeep b hb,hst.hle,hst.hnew,hst.hon,λk _=>rfl,λk b hb bb c hβ=> .inr ⟨k,by rw[hb];simp,c,hβ⟩⟩,hsat,⟨λk b hb=>?_,λk b hb bb c hβ=>?_,hM.inj⟩⟩
 .exact Blk.rep_congr (hM.rep k b hb) hst.hle (λ_ _=>rfl) (λbb c hβ=>hkeep bb (hM.own k b hb bb c hβ).2)
 .obtain⟨h1,h2⟩:=hM.own k b hb bb c hβ
  refine⟨?_,q5K h2 hst.size⟩
  cases hH:H' bb with
  |none=>rfl
  |some cs=>
   rcases hst.hnew bb (by rw[hH];simp)with h3|h3
   .exact absurd h1 h3
   .omega
end
def rV(x:Rat):V:= .qq (decide (x.num<0)) x.num.natAbs x.den
theorem LI(x:Rat):(rV x).okC:=⟨x.den_nz,x.reduced,λh=>by simp at h;omega⟩
theorem Bi{s:Bool}{n d:Nat}(h:QWF s n d): ∃x:Rat,s=decide (x.num<0)/\n=x.num.natAbs/\d=x.den:=by
 obtain⟨h1,h2,h3⟩:=h;have hd:0<d:=q5X h1;refine⟨qr s n d,?_,?_,?_⟩
 .by_cases hn:n=0
  .subst hn
   cases s with
   |true=>exact absurd rfl (h3 rfl)
   |false=>rw[B4];rfl
  .exact(za (q5X hn) hd).symm
 .rw[vw hd,h2];simp
 .rw[(jK hd).2,h2];simp
theorem Fq{s:Bool}{n d:Nat}(hd:0<d):mkQ s n d=rV (qr s n d):=by
 unfold mkQ;by_cases hn:n=0
 .subst hn
  rw[B4];rfl
 .rw[j5 hn]
  have e1:=za (neg:=s) (q5X hn) hd;have e2:=vw (neg:=s) (n:=n) hd;have e3:=(jK (neg:=s) (n:=n) hd).2;unfold rV;rw[e1,e2,e3];simp only
  cases hg:Nat.beq (Nat.gcd n d) 1 with
  |true=>
   have:=q5C hg;rw[this];simp
  |false=>rfl
theorem XO(s:Bool)(a:Nat)(t:Bool)(b d:Nat)(hd:0<d):addS s a t b d=rV (mkRat (sgI s a+sgI t b) d):=by
 unfold addS
 cases hst:s==t with
 |true=>
  have:s=t:=by simpa using hst
  subst this;rw[Nu];exact Fq hd
 |false=>
  have hne:s≠t:=by simpa using hst
  simp only
  cases hb:Nat.ble b a with
  |true=>
   have hb:b<=a:=by simpa using hb
   rw[TI hne hb];exact Fq hd
  |false=>
   have hb:a<=b:=by
    have: ¬b<=a:=bleF hb;omega
   rw[TJ hne hb];exact Fq hd
theorem Pv(x y:Rat)(t:Bool):qadd (decide (x.num<0)) x.num.natAbs x.den t y.num.natAbs y.den=rV (x+yQ t y):=by
 unfold qadd;show addS _ (x.num.natAbs*y.den) t (y.num.natAbs*x.den) (x.den*y.den)=_;rw[XO _ _ _ _ _ (q5W x.den_pos y.den_pos),HS]
theorem Q1(a b:Bool):xorB a b=decide (a≠b):=by cases a<;>cases b<;>rfl
theorem Gl(x y:Rat):qmul (decide (x.num<0)) x.num.natAbs x.den (decide (y.num<0)) y.num.natAbs y.den=rV (x*y):=by
 unfold qmul;show mkQ _ (x.num.natAbs*y.num.natAbs) (x.den*y.den)=_;rw[Fq (q5W x.den_pos y.den_pos),Q1];rw[<-DN]
theorem q1g (y : Rat) (hy : y.num.natAbs ≠ 0) : y⁻¹ = qr (decide (y.num < 0)) y.den y.num.natAbs := by
 have h0 : y.num ≠ 0 := λe => hy (by rw [e]; rfl)
 have h1 : 0 < y.num.natAbs := q5X hy;have h2 : y ≠ 0 := λe => h0 (by rw [e]; rfl)
 have h3 : qr (decide (y.num < 0)) y.den y.num.natAbs * y = 1 := by
  conv => lhs; rhs; rw [<- vV y]
  rw [Gu];unfold qr;rw [show (1 : Rat) = mkRat 1 1 from rfl, Rat.mkRat_eq_iff (Nat.ne_of_gt (q5W h1 y.den_pos)) (by decide)];simp [sgI, q5S]
 have h4 : y * y⁻¹ = 1 := Rat.mul_inv_cancel y h2
 calc y⁻¹ = 1 * y⁻¹ := (Rat.one_mul _).symm
  _ = (qr (decide (y.num < 0)) y.den y.num.natAbs * y) * y⁻¹ := by rw [h3]
  _ = qr (decide (y.num < 0)) y.den y.num.natAbs := by rw [Rat.mul_assoc, h4, Rat.mul_one]
theorem Pw(x y:Rat)(hy:y.num.natAbs≠0):qmul (decide (x.num<0)) x.num.natAbs x.den (decide (y.num<0)) y.den y.num.natAbs=rV (x/y):=by
 unfold qmul;show mkQ _ (x.num.natAbs*y.den) (x.den*y.num.natAbs)=_;rw[Fq (q5W x.den_pos (q5X hy)),Q1,Rat.div_def,q1g y hy]
 conv=>rhs;rw[<-vV x,Gu]
theorem Nk(x y:Rat):qlt (decide (x.num<0)) x.num.natAbs x.den (decide (y.num<0)) y.num.natAbs y.den=decide (x<y):=by
 have h:=Rat.lt_iff x y;have hx:=x.den_pos;have hy:=y.den_pos;generalize x.num=p at*;generalize x.den=c at*;generalize y.num=q at*;generalize y.den=d at*
 have e: ∀b:Bool,(b=true↔p*(d:Int)<q*(c:Int))->b=decide (x<y):=λb hb=>by
  cases b with
  |true=>exact(decide_eq_true (h.2 (hb.1 rfl))).symm
  |false=>exact(decide_eq_false (λhh=>by have:=hb.2 (h.1 hh);cases this)).symm
 apply e;by_cases hp:p<0
 .obtain⟨a,rfl⟩: ∃a:Nat,p= -(a:Int):=⟨p.natAbs,by omega⟩
  by_cases hq:q<0
  .obtain⟨b,rfl⟩: ∃b:Nat,q= -(b:Int):=⟨q.natAbs,by omega⟩
   simp only[hp,hq,decide_true,Int.natAbs_neg,Int.natAbs_natCast,qlt,Int.neg_mul];have e1:((a*d:Nat):Int)=(a:Int)*d:=q4U _ _;have e2:((b*c:Nat):Int)=(b:Int)*c:=q4U _ _;rw[<-e1,<-e2];show Nat.blt (b*c) (a*d)=true↔_;simp;omega
  .simp only[hp,hq,decide_true,decide_false,qlt]
   have h1: -(a:Int)*d<0:=Int.mul_neg_of_neg_of_pos hp (by omega);have h2:0<=q*(c:Int):=Int.mul_nonneg (by omega) (by omega);simp;omega
 .obtain⟨a,rfl⟩: ∃a:Nat,p=(a:Int):=⟨p.natAbs,by omega⟩
  by_cases hq:q<0
  .simp only[hp,hq,decide_true,decide_false,qlt]
   have h1:q*(c:Int)<0:=Int.mul_neg_of_neg_of_pos hq (by omega);have h2:0<=(a:Int)*d:=Int.mul_nonneg (by omega) (by omega);simp;omega
  .obtain⟨b,rfl⟩: ∃b:Nat,q=(b:Int):=⟨q.natAbs,by omega⟩
   simp only[hp,hq,decide_false,Int.natAbs_natCast,qlt];have e1:((a*d:Nat):Int)=(a:Int)*d:=q4U _ _;have e2:((b*c:Nat):Int)=(b:Int)*c:=q4U _ _;rw[<-e1,<-e2];show Nat.blt (a*d) (b*c)=true↔_;simp only[Nat.blt_eq];omega
theorem FA(x y:Rat):qeq (decide (x.num<0)) x.num.natAbs x.den (decide (y.num<0)) y.num.natAbs y.den=decide (x=y):=by
 unfold qeq;by_cases h:x=y
 .subst h;simp
 .rw[decide_eq_false h]
  cases hq:Nat.beq x.num.natAbs y.num.natAbs&&Nat.beq x.den y.den&&(decide (x.num<0)==decide (y.num<0))with
  |false=>rfl
  |true=>
   simp only[q4R]at hq;obtain⟨⟨h1,h2⟩,h3⟩:=hq;have h1:=q5C h1;have h2:=q5C h2;have h3:decide (x.num<0)=decide (y.num<0):=by simpa using h3
   exfalso;apply h;rw[<-vV x,<-vV y,h1,h2,h3]
theorem Y4(x y:Rat):cmpV (decide (x.num<0)) x.num.natAbs x.den (decide (y.num<0)) y.num.natAbs y.den=ofI .i64 (jp x y):=by
 unfold cmpV;rw[Nk,FA];unfold jp;by_cases h1:y<x
 .rw[decide_eq_true h1,if_neg (λh=>absurd (Rat.not_lt.2 (Rat.le_of_lt h1)) (λhh=>hh h)),if_neg (λh=>by subst h;exact absurd h1 Rat.lt_irrefl)];rfl
 .rw[decide_eq_false h1]
  by_cases h2:x=y
  .subst h2;rw[decide_eq_true rfl,if_neg h1,if_pos rfl];rfl
  .rw[decide_eq_false h2,if_pos,]
   .rfl
   .rcases Rat.le_iff_lt_or_eq.1 (Rat.not_lt.1 h1)with h|h
    .exact h
    .exact absurd h h2
end
noncomputable section
section
variable {D:List Int} {P:Program}
def jj(D:List Int)(P:Program)(f:FuncId)(g:List V->S->RO):Prop:= ∀vs s v s',g vs s= .ok v s'->(∀x∈vs,x.ok/\x≠ .und)->SOK D s->CallOk D P f vs s v s'
theorem Ni{L:List (Nat×Pt)}(h: ∀p∈L,jj D P p.1 (jn p.2)):LQ D P (prims L):=by
 intro f g hg;unfold prims at hg;split at hg
 .rename_i p hp
  cases hg
  have: ∀L:List (Nat×Pt),look L f=some p->(f,p)∈L:=by
   intro L
   induction L with
   |nil=>intro h;cases h
   |cons q r ih=>
    intro h;have h:(bif Nat.beq q.1 f then some q.2 else look r f)=some p:=h
    cases hb:Nat.beq q.1 f with
    |true=>
     rw[hb]at h;cases h
     have:=q5C hb;subst this;simp
    |false=>rw[hb]at h;exact q5k _ (ih h)
  exact h _ (this L hp)
 .cases hg
theorem TN{a:Nat}(h:smB a=true):qM a 31:=show a<2147483648 from q5E h
theorem Gw{x:Rat}(h1:smB x.num.natAbs=true)(h2:smB x.den=true):Bnd .rat (.n 31) x:=⟨TN h1,q5F (TN h2)⟩
theorem Jc{x:Rat}(h:Bnd .rat (.n 31) x):Bnd .rat (.n 1099511627776) x:=⟨qj (by decide) h.1,Al (by decide) h.2⟩
theorem E3(x:Rat):(.c (.agg (qk .rat x)):AV)=qp D (rV x):=rfl
theorem rV_k(x:Rat):(rV x).ok/\rV x≠ .und:=⟨LI x,by simp[rV]⟩
theorem Gh{f:FuncId}{R:Rat->AV}{h:Bool->Nat->Nat->V}(g:Rat->V)(hs: ∀x:Rat,Bnd .rat (.n 31) x->Sig P f (argsE [.rat] x) (R x))(he: ∀x:Rat,h (decide (x.num<0)) x.num.natAbs x.den=g x)(hR: ∀x,R x=qp D (g x))(hg: ∀x,(g x).ok/\g x≠ .und):jj D P f (one h):=by
 intro vs s v s' hv hvs hsk;unfold one at hv;split at hv
 .rename_i a n d
  have hq:QWF a n d:=(hvs (.qq a n d) (by simp)).1;obtain⟨x,rfl,rfl,rfl⟩:=Bi hq
  cases hb:(smB x.num.natAbs&&smB x.den)with
  |false=>rw[hb]at hv;cases hv
  |true=>
   rw[hb]at hv;simp only[q4R]at hb;rw[he]at hv;have hv:RO.ok (g x) s= .ok v s':=hv;injection hv with h1 h2
   subst h1;subst h2
   have:=hs x (Gw hb.1 hb.2);rw[hR]at this;exact B5 (vs:=[rV x]) this hsk (hg x).1 (hg x).2
 .cases hv
theorem AA{f:FuncId}{R:Rat->Rat->AV}{h:Bool->Nat->Nat->Bool->Nat->Nat->V}(g:Rat->Rat->V)(hs: ∀x y:Rat,Bnd .rat (.n 31) x->Bnd .rat (.n 31) y->Sig P f (argsE [.rat,.rat] (x,y)) (R x y))
  (he: ∀x y:Rat,h (decide (x.num<0)) x.num.natAbs x.den (decide (y.num<0)) y.num.natAbs y.den=g x y)(hR: ∀x y,R x y=qp D (g x y))(hg: ∀x y,(g x y).ok/\g x y≠ .und):jj D P f (two h):=by
 intro vs s v s' hv hvs hsk;unfold two at hv;split at hv
 .rename_i a n d a' n' d'
  have hq:QWF a n d:=(hvs (.qq a n d) (by simp)).1;have hq':QWF a' n' d':=(hvs (.qq a' n' d') (by simp)).1;obtain⟨x,rfl,rfl,rfl⟩:=Bi hq;obtain⟨y,rfl,rfl,rfl⟩:=Bi hq'
  cases hb:(smB x.num.natAbs&&smB x.den&&(smB y.num.natAbs&&smB y.den))with
  |false=>rw[hb]at hv;cases hv
  |true=>
   rw[hb]at hv;simp only[q4R]at hb;rw[he]at hv;have hv:RO.ok (g x y) s= .ok v s':=hv;injection hv with h1 h2
   subst h1;subst h2
   have:=hs x y (Gw hb.1.1 hb.1.2) (Gw hb.2.1 hb.2.2);rw[hR]at this;exact B5 (vs:=[rV x,rV y]) this hsk (hg x y).1 (hg x y).2
 .cases hv
theorem Jw(z:Int):(ofI .i64 z).ok/\ofI .i64 z≠ .und:=by cases z<;>exact⟨trivial,by simp[ofI]⟩
theorem Qb(z:Int):(.c (.one (.val (.int .i64 z))):AV)=qp D (ofI .i64 z):=by cases z<;>rfl
theorem Jb(z:Int):argC (.int .i64) z=qp D (ofI .i64 z):=by cases z<;>rfl
theorem q3P{f:FuncId}(hs: ∀x y:Rat,Bnd .rat (.n 31) x->Bnd .rat (.n 31) y->Sig P f (argsE [.rat,.rat] (x,y)) (.c (.agg (qk .rat (x+y))))):jj D P f (jn .add):=
 AA (h:=qadd) (λx y=>rV (x+y)) hs (λx y=>by rw[Pv,Cg]) (λx y=>E3 _) λx y=>rV_k _
theorem q3W{f:FuncId}(hs: ∀x y:Rat,Bnd .rat (.n 31) x->Bnd .rat (.n 31) y->Sig P f (argsE [.rat,.rat] (x,y)) (.c (.agg (qk .rat (x-y))))):jj D P f (jn .sub):=
 AA (h:=λa b c d e f=>qadd a b c (!d) e f) (λx y=>rV (x-y)) hs (λx y=>by rw[Pv,O8,Rat.sub_eq_add_neg]) (λx y=>E3 _) λx y=>rV_k _
theorem q3U{f:FuncId}(hs: ∀x y:Rat,Bnd .rat (.n 31) x->Bnd .rat (.n 31) y->Sig P f (argsE [.rat,.rat] (x,y)) (.c (.agg (qk .rat (x*y))))):jj D P f (jn .mul):=
 AA (h:=qmul) (λx y=>rV (x*y)) hs (λx y=>Gl x y) (λx y=>E3 _) λx y=>rV_k _
theorem q3S{f:FuncId}(hs: ∀x y:Rat,Bnd .rat (.n 31) x->Bnd .rat (.n 31) y->Sig P f (argsE [.rat,.rat] (x,y)) (.c (.agg (qk .rat (maxQ x y))))):jj D P f (jn .max):=by
 refine AA (h:=λa b c d e f=> @Bool.rec (λ_=>V) (.qq a b c) (.qq d e f) (qlt a b c d e f)) (λx y=>rV (maxQ x y)) hs (λx y=>?_) (λx y=>E3 _) λx y=>rV_k _
 simp only[Nk];unfold maxQ jp;by_cases h:x<y
 .have h1: ¬y<x:=Rat.not_lt.2 (Rat.le_of_lt h)
  have h2: ¬y=x:=λe=>by subst e;exact absurd h Rat.lt_irrefl
  rw[decide_eq_true h,if_neg h1,if_neg h2,if_pos (by decide)];rfl
 .rw[decide_eq_false h]
  by_cases h1:y<x
  .rw[if_pos h1,if_neg (by decide)];rfl
  .have h2:y=x:=by
    rcases Rat.le_iff_lt_or_eq.1 (Rat.not_lt.1 h)with h3|h3
    .exact absurd h3 h1
    .exact h3
   rw[if_neg h1,if_pos h2,if_neg (by decide)];rfl
theorem q3T{f:FuncId}(hs: ∀x y:Rat,Bnd .rat (.n 31) x->Bnd .rat (.n 31) y->Sig P f (argsE [.rat,.rat] (x,y)) (.c (.agg (qk .rat (minQ x y))))):jj D P f (jn .min):=by
 refine AA (h:=λa b c d e f=> @Bool.rec (λ_=>V) (.qq a b c) (.qq d e f) (qlt d e f a b c)) (λx y=>rV (minQ x y)) hs (λx y=>?_) (λx y=>E3 _) λx y=>rV_k _
 simp only[Nk];unfold minQ jp;by_cases h:y<x
 .rw[decide_eq_true h,if_pos h,if_pos (by decide)];rfl
 .rw[decide_eq_false h,if_neg h]
  by_cases h1:y=x
  .rw[if_pos h1,if_neg (by decide)];rfl
  .rw[if_neg h1,if_neg (by decide)];rfl
theorem q3Q{f:FuncId}(hs: ∀x y:Rat,Bnd .rat (.n 31) x->Bnd .rat (.n 31) y->Sig P f (argsE [.rat,.rat] (x,y)) (.c (.one (.val (.int .i64 (jp x y)))))):jj D P f (jn .cmp):=
 AA (h:=cmpV) (λx y=>ofI .i64 (jp x y)) hs (λx y=>Y4 x y) (λx y=>Qb _) λx y=>Jw _
theorem q1F{f:FuncId}(hs: ∀x y:Rat,Bnd .rat (.n 31) x->Bnd .rat (.n 31) y->Sig P f (argsE [.rat,.rat] (x,y)) (.c (.one (.val (.bool (decide (x=y))))))):jj D P f (jn .same):=
 AA (h:=λa b c d e f=> .bb (qeq a b c d e f)) (λx y=> .bb (decide (x=y))) hs (λx y=>by rw[FA]) (λx y=>rfl) λx y=>⟨trivial,by simp⟩
theorem q3L{x:Rat}(h:x.num=0):x=0:=by
 rw[<-vV x,h];exact B4 _ _
theorem q3w{x y:Rat}(h:y.num.natAbs=0):x/y=0:=by
 have:y=0:=by
  have:y.num=0:=by omega
  exact q3L this
 rw[this,Rat.div_def,Rat.inv_zero,Rat.mul_zero]
theorem q3V{f:FuncId}(hs: ∀x y:Rat,Bnd .rat (.n 31) x->Bnd .rat (.n 31) y->Sig P f (argsE [.rat,.rat] (x,y)) (.tup [.agg (qk .rat (x/y)),.one (.val (.int .i64 (quoC y)))])):jj D P f (jn .quo):=by
 refine AA (h:=λa b c d e f=> @Bool.rec (λ_=>V) (.tu [qmul a b c d f e,.nn .i64 0]) (.tu [.qq false 0 1,.nn .i64 3]) (Nat.beq e 0)) (λx y=> .tu [rV (x/y),ofI .i64 (quoC y)]) hs (λx y=>?_) (λx y=>?_) λx y=>⟨?_,by simp⟩
 .cases hb:Nat.beq y.num.natAbs 0 with
  |true=>
   have:=q5C hb;rw[q3w this,show quoC y=3 from if_pos this];rfl
  |false=>
   have:y.num.natAbs≠0:=λe=>by rw[e]at hb;simp at hb
   simp only;rw[Pw x y this,show quoC y=0 from if_neg this];rfl
 .unfold quoC;split<;>rfl
 .intro v hv
  simp only[q5j,q5r,or_false]at hv;rcases hv with rfl|rfl
  .exact LI _
  .unfold quoC;split<;>exact trivial
theorem Ti{f:FuncId}(hs: ∀x:Rat,Bnd .rat (.n 31) x->Sig P f (argsE [.rat] x) (.c (.one (.val (.int .i64 (qO x)))))):jj D P f (jn .sign):=by
 refine Gh (h:=λa b c=> @Bool.rec (λ_=>V) (@Bool.rec (λ_=>V) (.nn .i64 1) (.zz .i64 0) a) (.nn .i64 0) (Nat.beq b 0)) (λx=>ofI .i64 (qO x)) hs (λx=>?_) (λx=>Qb _) λx=>Jw _
 unfold qO
 cases hb:Nat.beq x.num.natAbs 0 with
 |true=>rw[if_pos (q5C hb)];rfl
 |false=>
  have:x.num.natAbs≠0:=λe=>by rw[e]at hb;simp at hb
  rw[if_neg this];by_cases h:x.num<0
  .rw[decide_eq_true h,if_pos h];rfl
  .rw[decide_eq_false h,if_neg h];rfl
theorem XW(x:Rat):(V.nn .i64 (Nat.max (Nat.add (Nat.log2 x.num.natAbs) 1) (Nat.add (Nat.log2 x.den) 1)))=ofI .i64 (max ((bl x.num.natAbs:Nat):Int) ((bl x.den:Nat):Int)):=by
 have hd:bl x.den=Nat.log2 x.den+1:=by unfold bl;rw[if_neg x.den_nz]
 have hn:bl x.num.natAbs=if x.num.natAbs=0 then 0 else Nat.log2 x.num.natAbs+1:=rfl
 have h0:x.num.natAbs=0->Nat.log2 x.num.natAbs=0:=λh=>by rw[h];rfl
 have e1:Nat.max (Nat.add (Nat.log2 x.num.natAbs) 1) (Nat.add (Nat.log2 x.den) 1)=max (bl x.num.natAbs) (bl x.den):=by
  show max (Nat.log2 x.num.natAbs+1) (Nat.log2 x.den+1)=_;rw[hn,hd];split
  .rename_i h;have:=h0 h;omega
  .rfl
 have e2:max ((bl x.num.natAbs:Nat):Int) ((bl x.den:Nat):Int)=((max (bl x.num.natAbs) (bl x.den):Nat):Int):=by omega
 rw[e1,e2];rfl
theorem q1D{f:FuncId}(hs: ∀x:Rat,Bnd .rat (.n 31) x->Sig P f (argsE [.rat] x) (.c (.one (.val (.int .i64 (max ((bl x.num.natAbs:Nat):Int) ((bl x.den:Nat):Int))))))):jj D P f (jn .bits):=
 Gh (h:=λa b c=> .nn .i64 (Nat.max (Nat.add (Nat.log2 b) 1) (Nat.add (Nat.log2 c) 1))) (λx=>ofI .i64 (max ((bl x.num.natAbs:Nat):Int) ((bl x.den:Nat):Int))) hs (λx=>XW x) (λx=>Qb _) λx=>Jw _
theorem Zs{f:FuncId}(hs: ∀x:Rat,Bnd .rat (.n 31) x->Sig P f (argsE [.rat] x) (.c (.one (.val (.bool true))))):jj D P f (jn .valid):=
 Gh (h:=λa b c=> .bb true) (λx=> .bb true) hs (λx=>rfl) (λx=>rfl) λx=>⟨trivial,by simp⟩
theorem q3R{f:FuncId}(hs: ∀x:Rat,Bnd .rat (.n 31) x->Sig P f (argsE [.rat] x) (.c (.agg (qk .rat x)))):jj D P f (jn .idq):=
 Gh (h:=λa b c=> .qq a b c) (λx=>rV x) hs (λx=>rfl) (λx=>E3 _) λx=>rV_k _
end
end
noncomputable section
section
variable {D:List Int} {P:Program}
theorem JL{v:V}{a:Bool}{n:Nat}(h:qint v=some (a,n)): ∃z:Int,v=ofI .i64 z/\a=decide (z<0)/\n=z.natAbs/\Bnd (.int .i64) (.n 4611686018427387904) z:=by
 unfold qint at h;split at h
 .rename_i m
  cases hb:Nat.ble m 4611686018427387904 with
  |false=>rw[hb]at h;cases h
  |true=>
   rw[hb]at h;have h:some (false,m)=some (a,n):=h;injection h with h
   injection h with h1 h2
   subst h1;subst h2
   have:=q5E hb;exact⟨(m:Int),rfl,(decide_eq_false (by omega)).symm,by simp,by show Int.natAbs (m:Int)<=_;simpa using this⟩
 .rename_i m
  cases hb:Nat.blt m 4611686018427387904 with
  |false=>rw[hb]at h;cases h
  |true=>
   rw[hb]at h;have h:some (true,m+1)=some (a,n):=h;cases h;have:m+1<=4611686018427387904:=q5E hb;exact⟨Int.negSucc m,rfl,(decide_eq_true (Int.negSucc_lt_zero m)).symm,rfl,by show Int.natAbs (Int.negSucc m)<=_;simpa using this⟩
 .cases h
theorem q1N(z:Int):rV (z:Rat)= .qq (decide (z<0)) z.natAbs 1:=by
 unfold rV;rw[Rat.num_intCast,Rat.den_intCast]
theorem ZC{u v:Int}(hv:v.natAbs≠0):mkQ (xorB (decide (u<0)) (decide (v<0))) u.natAbs v.natAbs=rV ((u:Rat)/(v:Rat)):=by
 rw[<-Pw (u:Rat) (v:Rat) (by rw[Rat.num_intCast];exact hv)];rw[Rat.num_intCast,Rat.den_intCast,Rat.num_intCast,Rat.den_intCast];unfold qmul;show _=mkQ _ (u.natAbs*1) (1*v.natAbs);rw[Nat.mul_one,Nat.one_mul]
theorem Xx{f:FuncId}(hs: ∀z:Int,Bnd (.int .i64) (.n 4611686018427387904) z->Sig P f (argsE [.int .i64] z) (.c (.agg (qk .rat (z:Rat))))):jj D P f (jn .int):=by
 intro vs s v s' hv hvs hsk;have hv:(match vs with|[v]=>(match qint v with|some (a,n)=>RO.ok (.qq a n 1) s|none=> .no [21])|_=> .no [22])= .ok v s':=hv;split at hv
 .split at hv
  .rename_i u a n hq
   obtain⟨z,rfl,rfl,rfl,hb⟩:=JL hq;injection hv with h1 h2
   subst h1;subst h2
   have h:=hs z hb;rw[E3 (D:=D)]at h;rw[<-q1N];refine B5 (vs:=[ofI .i64 z]) ?_ hsk (rV_k _).1 (rV_k _).2;show Sig P f [qp D (ofI .i64 z)] _;rw[<-Jb];exact h
  .cases hv
 .cases hv
theorem q1E{f:FuncId}(hs: ∀u v:Int,Bnd (.int .i64) (.n 4611686018427387904) u->Bnd (.int .i64) (.n 4611686018427387904) v->v≠0->Sig P f (argsE [.int .i64,.int .i64] (u,v)) (.tup [.agg (qk .rat ((u:Rat)/(v:Rat))),.one (.val (.int .i64 0))])):jj D P f (jn .make):=by
 intro vs s v s' hv hvs hsk;have hv:(match vs with|[u,v]=>(match qint u,qint v with|some (a,n),some (b,m)=> @Bool.rec (λ_=>RO) (.ok (.tu [mkQ (xorB a b) n m,.nn .i64 0]) s) (.no [25]) (Nat.beq m 0)|_,_=> .no [23])|_=> .no [22])= .ok v s':=hv;split at hv
 .split at hv
  .rename_i x y a n b m hq hq'
   obtain⟨z,rfl,rfl,rfl,hb⟩:=JL hq;obtain⟨z',rfl,rfl,rfl,hb'⟩:=JL hq'
   cases h0:Nat.beq z'.natAbs 0 with
   |true=>rw[h0]at hv;cases hv
   |false=>
    rw[h0]at hv;have hne:z'.natAbs≠0:=λe=>by rw[e]at h0;simp at h0
    rw[ZC hne]at hv;have hv:RO.ok (.tu [rV ((z:Rat)/(z':Rat)),.nn .i64 0]) s= .ok v s':=hv;injection hv with h1 h2
    subst h1;subst h2
    have h:=hs z z' hb hb' (by omega);refine B5 (vs:=[ofI .i64 z,ofI .i64 z']) ?_ hsk ?_ (by simp)
    .show Sig P f [qp D (ofI .i64 z),qp D (ofI .i64 z')] _
     rw[<-Jb,<-Jb];exact h
    .intro x hx
     simp only[q5j,q5r,or_false]at hx;rcases hx with rfl|rfl
     .exact LI _
     .exact trivial
  .cases hv
 .cases hv
end
end
noncomputable section
section
variable {D:List Int} {P:Program}
end
end
noncomputable section
section
variable {D:List Int} {P:Program}
theorem EJ{x:Rat}(h1:smB x.num.natAbs=true)(h2:smB x.den=true):Bnd .rat (.n 31) x:=
 Gw h1 h2
end
end
noncomputable section
section
variable {D:List Int} {P:Program}
def ptV(p:V3):V:= .ag 9 [rV p.1,rV p.2.1,rV p.2.2]
theorem Xy{w:Nat}{a b c:Bool}{n d n' d' n'' d'':Nat}(h:(V.ag w [.qq a n d,.qq b n' d',.qq c n'' d'']).ok): ∃p:V3,a=decide (p.1.num<0)/\n=p.1.num.natAbs/\d=p.1.den/\b=decide (p.2.1.num<0)/\n'=p.2.1.num.natAbs/\d'=p.2.1.den/\c=decide (p.2.2.num<0)/\n''=p.2.2.num.natAbs/\d''=p.2.2.den/\w=9:=by
 obtain⟨hw,hl⟩:=(show w=wds _/\okL _ from h);obtain⟨h1,h2⟩:=jI.1 hl;obtain⟨h2,h3⟩:=jI.1 h2;obtain⟨h3,_⟩:=jI.1 h3;obtain⟨x,e1,e2,e3⟩:=Bi h1.2;obtain⟨y,e4,e5,e6⟩:=Bi h2.2;obtain⟨z,e7,e8,e9⟩:=Bi h3.2;exact⟨(x,y,z),e1,e2,e3,e4,e5,e6,e7,e8,e9,hw⟩
theorem JV{p:V3}(h:(smQ p.1.num.natAbs p.1.den&&(smQ p.2.1.num.natAbs p.2.1.den&&smQ p.2.2.num.natAbs p.2.2.den))=true):Bnd tV3 (bV3 31) p:=by
 simp only[smQ,q4R]at h;obtain⟨⟨h1,h2⟩,⟨h3,h4⟩,h5,h6⟩:=h;exact⟨EJ h1 h2,EJ h3 h4,EJ h5 h6⟩
theorem K0{p:V3}(h:Bnd tV3 (bV3 31) p){b:Nat}(hb:31<=b:=by decide):Bnd tV3 (bV3 b) p:=⟨jx h.1 hb,jx h.2.1 hb,jx h.2.2 hb⟩
theorem q3X{f:FuncId}(hs: ∀p q:V3,Bnd tV3 (bV3 31) p->Bnd tV3 (bV3 31) q->Sig P f (argsE [tV3,tV3] (p,q)) (.c (.one (.val (.bool (decide (p=q))))))):jj D P f (jn .vsm):=by
 intro vs s v s' hv0 hvs hsk
 have hv:(match(generalizing:=false) vs with
  |[.ag _ [.qq a1 b1 c1,.qq a2 b2 c2,.qq a3 b3 c3],.ag _ [.qq d1 e1 f1,.qq d2 e2 f2,.qq d3 e3 f3]]=> @Bool.rec (λ_=>RO) (.no [47]) (.ok (.bb (qeq a1 b1 c1 d1 e1 f1&&(qeq a2 b2 c2 d2 e2 f2&&qeq a3 b3 c3 d3 e3 f3))) s) ((smQ b1 c1&&(smQ b2 c2&&smQ b3 c3))&&(smQ e1 f1&&(smQ e2 f2&&smQ e3 f3)))
  |_=> .no [48])=RO.ok v s':=hv0
 clear hv0;split at hv
 .rename_i w a1 b1 c1 a2 b2 c2 a3 b3 c3 w' d1 e1 f1 d2 e2 f2 d3 e3 f3
  obtain⟨p,rfl,rfl,rfl,rfl,rfl,rfl,rfl,rfl,rfl,rfl⟩:=Xy (hvs (.ag w [.qq a1 b1 c1,.qq a2 b2 c2,.qq a3 b3 c3]) (by simp)).1;obtain⟨q,rfl,rfl,rfl,rfl,rfl,rfl,rfl,rfl,rfl,rfl⟩:=Xy (hvs (.ag w' [.qq d1 e1 f1,.qq d2 e2 f2,.qq d3 e3 f3]) (by simp)).1
  cases hb:((smQ p.1.num.natAbs p.1.den&&(smQ p.2.1.num.natAbs p.2.1.den&&smQ p.2.2.num.natAbs p.2.2.den))&&(smQ q.1.num.natAbs q.1.den&&(smQ q.2.1.num.natAbs q.2.1.den&&smQ q.2.2.num.natAbs q.2.2.den)))with
  |false=>rw[hb]at hv;cases hv
  |true=>
   rw[hb,FA,FA,FA]at hv;rw[q4R]at hb;have hv:RO.ok (.bb (decide (p.1=q.1)&&(decide (p.2.1=q.2.1)&&decide (p.2.2=q.2.2)))) s= .ok v s':=hv;injection hv with g1 g2
   have h:=hs p q (JV hb.1) (JV hb.2);rw[show decide (p=q)=(decide (p.1=q.1)&&(decide (p.2.1=q.2.1)&&decide (p.2.2=q.2.2))) by rw[Bool.eq_iff_iff];simp[U0]]at h;subst g1;subst g2
   exact B5 (vs:=[ptV p,ptV q]) h hsk trivial (by simp)
 .cases hv
def q4c(p:Pole):V:= .ag 12 [rV p.1.1,rV p.1.2.1,rV p.1.2.2,rV p.2]
theorem Yu(a b c d:Rat):(V.ag 12 [rV a,rV b,rV c,rV d]).okC:=⟨rfl,λx hx=>by
 simp only[q5j,q5r,or_false]at hx
 rcases hx with rfl|rfl|rfl|rfl<;>exact⟨rfl,LI _⟩⟩
theorem Zr{f:FuncId}(hs: ∀p:Pole,Bnd zZ (.p (bV3 31) (.n 31)) p->Sig P f (argsE [zZ] p) (.c (.agg (qk Re (Lv p))))):jj D P f (jn .lift4):=by
 intro vs s v s' hv0 hvs hsk
 have hv:(match(generalizing:=false) vs with
  |[.ag _ [.qq a1 b1 c1,.qq a2 b2 c2,.qq a3 b3 c3,.qq a b c]]=> @Bool.rec (λ_=>RO) (.no [49]) (.ok (.ag 12 [qmul a b c a1 b1 c1,qmul a b c a2 b2 c2,qmul a b c a3 b3 c3,.qq a b c]) s) ((smQ b1 c1&&(smQ b2 c2&&smQ b3 c3))&&smQ b c)
  |_=> .no [50])=RO.ok v s':=hv0
 clear hv0;split at hv
 .rename_i w a1 b1 c1 a2 b2 c2 a3 b3 c3 a b c
  obtain⟨hw,hl⟩:=(show w=wds _/\okL _ from(hvs (.ag w [.qq a1 b1 c1,.qq a2 b2 c2,.qq a3 b3 c3,.qq a b c]) (by simp)).1);obtain⟨h1,h2⟩:=jI.1 hl;obtain⟨h2,h3⟩:=jI.1 h2;obtain⟨h3,h4⟩:=jI.1 h3;obtain⟨h4,_⟩:=jI.1 h4;obtain⟨x,rfl,rfl,rfl⟩:=Bi h1.2;obtain⟨y,rfl,rfl,rfl⟩:=Bi h2.2;obtain⟨z,rfl,rfl,rfl⟩:=Bi h3.2;obtain⟨r,rfl,rfl,rfl⟩:=Bi h4.2;have hw:w=12:=hw;subst hw
  cases hb:((smQ x.num.natAbs x.den&&(smQ y.num.natAbs y.den&&smQ z.num.natAbs z.den))&&smQ r.num.natAbs r.den)with
  |false=>rw[hb]at hv;cases hv
  |true=>
   rw[hb,Gl,Gl,Gl]at hv;rw[q4R]at hb;injection hv with g1 g2
   subst g1;subst g2
   have hr:Bnd .rat (.n 31) r:=by
    have:=hb.2;simp only[smQ,q4R]at this;exact EJ this.1 this.2
   have h:=hs ((x,y,z),r) ⟨JV (p:=(x,y,z)) hb.1,hr⟩;exact B5 (vs:=[q4c ((x,y,z),r)]) (v:= .ag 12 [rV (r*x),rV (r*y),rV (r*z),rV r]) h hsk (V.okC_ok (Yu _ _ _ _)) (by simp)
 .cases hv
end
end
noncomputable section
section
variable {D:List Int}
theorem q3Y:jj D Go.Proofs.Tryz.prog 17 (jn .sign):=Ti λx hx=>Q3.sig x hx (λp hp=>by simp at hp)
theorem q3Z:jj D Go.Proofs.Tryz.prog 18 (jn .vsm):=q3X λp q hp hq=>NN.sig (p,q) ⟨K0 hp,K0 hq⟩ (λp hp=>by simp at hp)
theorem q40:jj D Go.Proofs.Tryz.prog 22 (jn .int):=Xx λz hz=>Ug.sig z (hz.mono (by decide)) (λp hp=>by simp at hp)
theorem q41:jj D Go.Proofs.Tryz.prog 36 (jn .max):=q3S λx y hx hy=>q24.sig (x,y) ⟨hx,hy⟩ (λp hp=>by simp at hp)
theorem q42:jj D Go.Proofs.Tryz.prog 38 (jn .idq):=q3R λx hx=>Tf.sig x (Jc hx) (λp hp=>by simp at hp)
theorem q43:jj D Go.Proofs.Tryz.prog 54 (jn .valid):=Zs λx hx=>Ns.sig x hx (λp hp=>by simp at hp)
theorem q44:jj D Go.Proofs.Tryz.prog 59 (jn .sign):=Ti λx hx=>PH.sig x hx (λp hp=>by simp at hp)
theorem q45:jj D Go.Proofs.Tryz.prog 61 (jn .bits):=q1D λx hx=>Pz.sig x hx (λp hp=>by simp at hp)
theorem q46:jj D Go.Proofs.Tryz.prog 70 (jn .cmp):=q3Q λx y hx hy=>Tl.sig (x,y) ⟨hx,hy⟩ (λp hp=>by simp at hp)
theorem q47:jj D Go.Proofs.Tryz.prog 71 (jn .quo):=q3V λx y hx hy=>q2c.sig (x,y) ⟨hx,hy⟩ (λp hp=>by simp at hp)
theorem q48:jj D Go.Proofs.Tryz.prog 72 (jn .sub):=q3W λx y hx hy=>q2e.sig (x,y) ⟨hx,hy⟩ (λp hp=>by simp at hp)
theorem q49:jj D Go.Proofs.Tryz.prog 73 (jn .int):=Xx λz hz=>q22.sig z (hz.mono (by decide)) (λp hp=>by simp at hp)
theorem q4a:jj D Go.Proofs.Tryz.prog 74 (jn .add):=q3P λx y hx hy=>Py.sig (x,y) ⟨hx,hy⟩ (λp hp=>by simp at hp)
theorem q4b:jj D Go.Proofs.Tryz.prog 75 (jn .mul):=q3U λx y hx hy=>Tw.sig (x,y) ⟨hx,hy⟩ (λp hp=>by simp at hp)
theorem q1G:jj D Go.Proofs.Tryz.prog 102 (jn .same):=q1F λx y hx hy=>PG.sig (x,y) ⟨(Jc hx),(Jc hy)⟩ (λp hp=>by simp at hp)
theorem q1H:jj D Go.Proofs.Tryz.prog 135 (jn .lift4):=Zr λp hp=>q4y.sig p ⟨K0 hp.1,jx hp.2 (by decide)⟩ (λp hp=>by simp at hp)
theorem q1I:jj D Go.Proofs.Tryz.prog 204 (jn .min):=q3T λx y hx hy=>q26.sig (x,y) ⟨hx,hy⟩ (λp hp=>by simp at hp)
theorem q1J:jj D Go.Proofs.Tryz.prog 213 (jn .make):=q1E λu v hu hv h0=>by have:=ZM.sig (u,v) ⟨hu,hv⟩ (λp hp=>by simp at hp);rw[show(JN.res JN.bs (u,v)).exp= .tup [.agg (qk .rat ((u:Rat)/(v:Rat))),.one (.val (.int .i64 (mkC' v)))]from rfl,show mkC' v=0 from if_neg h0]at this;exact this
def tbA:List (Nat×Pt):=[(17,.sign),(18,.vsm),(22,.int),(36,.max),(38,.idq),(54,.valid),(59,.sign),(61,.bits),(70,.cmp),(71,.quo),(72,.sub),(73,.int),(74,.add),(75,.mul),(102,.same),(135,.lift4),(204,.min),(213,.make)]
theorem q2J: ∀p∈tbA,jj D Go.Proofs.Tryz.prog p.1 (jn p.2):=λp hp=>by
 unfold tbA at hp;simp only[q5j,q5r,or_false]at hp;rcases hp with rfl|rfl|rfl|rfl|rfl|rfl|rfl|rfl|rfl|rfl|rfl|rfl|rfl|rfl|rfl|rfl|rfl|rfl
 .exact q3Y
 .exact q3Z
 .exact q40
 .exact q41
 .exact q42
 .exact q43
 .exact q44
 .exact q45
 .exact q46
 .exact q47
 .exact q48
 .exact q49
 .exact q4a
 .exact q4b
 .exact q1G
 .exact q1H
 .exact q1I
 .exact q1J
end
end
noncomputable section
def XH(P:Program)(fn:Func):Bool:=match fn.body with|some c=>vu P c|none=>true
def XG(P:Program):Bool:=P.funcs.toList.all (XH P)
theorem Ru{P:Program}(h:XG P=true): ∀(f:FuncId) fn c,P.funcs[f]?=some fn->fn.body=some c->vu P c=true:=by
 intro f fn c hf hc
 have hm:fn∈P.funcs.toList:=by
  obtain⟨h1,h2⟩:=Array.getElem?_eq_some_iff.1 hf;rw[<-h2];exact Array.mem_toList_iff.2 (Array.getElem_mem h1)
 have h3:=List.all_eq_true.1 h fn hm;unfold XH at h3;rw[hc]at h3;exact h3
theorem L4:XG Go.Proofs.Tryz.prog=true:=by kernel_rfl
end
noncomputable section
def stE:S:=⟨mnew,⟨.d0,.d0,.d0,.d0⟩,0,[]⟩
def okB(r:RO):Bool:= @RO.rec (λ_=>Bool) (λv _=>match v with| .bb b=>b|_=>false) (λ_=>false) (λ_=>false) r
theorem q1A{r:RO}(h:okB r=true): ∃s',r= .ok (.bb true) s':=by
 cases r with
 |no t=>cases h
 |need n=>cases h
 |ok v s'=>
  cases v with
  |bb b=>
   have h:b=true:=h;subst h;exact⟨s',rfl⟩
  |_=>cases h
def locL:List Nat:=[0,0,0,0,0,4530200926748608,0,0,0,0,0,0,0,268434432,16256,0x1ffffffefbffef000,0xfff0ff7800,0,0,0,0,0,0,0,0,0,3782725072640,0,0,0,0,0,1048288,480,15808,0x1ffefffbfff7f400,0,0x3fffffffffffffe0100,0,274862170624,24,0,0,0,0,0,0,0,0,0,0,0xffffe187f00,480,56,0,0x100c3807ff0800fdfa77c00,270328,480,120,0,56,0,0,0,0,0,0,0,0,0,0,0,0,0,0,0,0,548707761152,0x3fffc70c3ffe000,65408,16911169536,68719377408,224,224,0x3ffffffffff8fffff3fff8440,0,8792066226176,66059008,268311808,24,0,0,0,0,0,0,68215103488,457792,0,0,0,16776128,0,56,2027520,992,480,4080,457792,0,0,0,0,0,0,0,0,0,0,0,0,0,0,0,0,0,0,1008,1246200,573664,0x3fffe1fff0fe000,1008,0xffff8ffffc7ffff01e01fc78000,536855024,1008,0,35167160752128,0x3ffffe70803ffe000,134214624,16775168,2087067392,0x1ffffffffc63fffffffffffff1c71c7fff87c3fff80000,224,2096640,8380864,525304,134156224,268311808,8184,0,0,0,0,0,0,0,134152096,0,0,0,0,0,0x3fffdfff7efff7b00,8380864,457792,0,0,0,0,0,0,131032,265336,17376,4397983565312,549753920896,0,0x7ffffffff1fe00,240,240,4080,0x3fffe187ff800,4088,0x7ffffffffffffc3ef0187bfc0000,130816,549957930104,0x7fffffe1c3e00,4294901280,0x1ffffe3ffffff800,0,0,0,4064,67552,0,58722272,0xbfdffef00303c00,562949937491968,1048320,8,8160,233408,992,549752135424,0,0,0,0x3fffffffffffefc3ffc0061ec3f80000,0x1ffffff7ffff63f07f400,0xfffffc71dfc0,524256,0,16769472]
def locT(f:FuncId):Nat:=locL.getD f 0
theorem PR(D:List Int):SOK D stE:=by
 refine⟨λk b h=>?_,λk h=>?_,λj p h=>?_⟩
 .rw[show stE.m=mnew from rfl,Ez]at h;cases h
 .rw[show stE.m=mnew from rfl,Ez]at h;exact absurd rfl h
 .have h:([]:List (Nat×Nat))[j]?=some p:=h
  simp at h
def runE:Bool:=okB ((Ln Go.Proofs.Tryz.prog (prims tbA) locT 60).call 5 (jF []).c0 ([]:List V).length stE)
theorem run_e:runE=true:=by kernel_rfl
theorem sane_sig(hm:Go.Proofs.Tryz.prog.follows .mixedOrders=true):Sig Go.Proofs.Tryz.prog 5 [] (.c (.one (.val (.bool true)))):=by
 have hn: ∀k b,mget stE.m k=some b->False:=λk b hb=>by rw[show stE.m=mnew from rfl,Ez]at hb;cases hb
 obtain⟨s1,h1⟩:=q1A run_e;have hc:=M7 (D:=[]) (P:=Go.Proofs.Tryz.prog) (pr:=prims tbA) (tb:=locT) (n:=60) (f:=5) (vs:=[]) (Ru L4) (Ni q2J) hm h1 (λx hx=>by cases hx) (PR []);refine⟨hc.callable,λus w H β hargs _ _ hon=>?_⟩
 have ha:AVs (λ_=>none) H (([]:List V).map (qp [])) us:=by
  match us,hargs with
  |[],_=>exact trivial
  |_::_,h=>exact h.elim
 refine Calls.mono (hc.calls us w H (λ_=>none) ha ⟨λk b hb=>(hn k b hb).elim,λk b hb=>(hn k b hb).elim,λk k' b b' hb=>(hn k b hb).elim⟩ hon λ_ _ _=>rfl) ?_
 rintro e w' ⟨u,H',β1,rfl,hst,hsat,hM⟩
 have hkeep: ∀b,b<w.heap.size->w'.heap[b]?=w.heap[b]?:=λb hb=>hst.keep b hb λk hk=>by
  cases hk2:mget stE.m k with
  |none=>exact absurd hk2 hk
  |some b2=>exact(hn k b2 hk2).elim
 exact⟨u,H',β,rfl,⟨hst.os,hst.tape,hst.output,hst.size,λb hb _=>hkeep b hb,hst.hle,hst.hnew,hst.hon,λk hk=>rfl,λk hk=>by simp[qt]at hk,λk hk=>by simp[qt]at hk⟩,hsat,λk b hb=>by cases hb⟩
end
noncomputable section
def nilV:V:= .uu (.slice none 0 0)
def okGr(r:RO):Bool:= @RO.rec (λ_=>Bool) (λv s=>match v with
 | .uu (.slice none 0 0)=>true
 | .gs K 0 0 3=>(match mget s.m K with|some (.gro 3 (N+1) q)=>!((Sq.toL .und q 0 (N+1)).isEmpty)|_=>false)
 |_=>false) (λ_=>false) (λ_=>false) r
def IV(f:FuncId)(n:Nat):RO:=(Ln Tryz.prog (prims []) locT 5).call f (jF [nilV,.nn .i64 n]).c0 [nilV,.nn .i64 n].length stE
def growB(f:FuncId):Nat->Bool
 |0=>true
 |n+1=>okGr (IV f n)&&growB f n
theorem UT{f:FuncId}{N:Nat}(h:growB f N=true): ∀n,n<N->okGr (IV f n)=true:=by
 induction N with
 |zero=>intro n hn;omega
 |succ N ih=>
  rw[growB,q4R]at h;intro n hn;by_cases e:n=N
  .rw[e];exact h.1
  .exact ih h.2 n (by omega)
theorem UV(hm: Tryz.prog.follows .mixedOrders=true){f:FuncId}{n:Nat}(h:okGr (IV f n)=true)(d:Nat):
  SigG Tryz.prog f [.c (.one (.val (.slice none 0 0))),qc .i64 n] [] (.c (.one (.gs d 0))) [(d,some (.grow 3 []))]:=by
 have hn: ∀k b,mget stE.m k=some b->False:=λk b hb=>by rw[show stE.m=mnew from rfl,Ez]at hb;cases hb
 have key: ∃v s1,IV f n= .ok v s1/\(v=nilV\/ ∃K N q,v= .gs K 0 0 3/\mget s1.m K=some (.gro 3 (N+1) q)/\Sq.toL .und q 0 (N+1)≠[]):=by
  cases hr:IV f n with
  |no t=>rw[hr]at h;cases h
  |need n=>rw[hr]at h;cases h
  |ok v s1=>
   rw[hr]at h;refine⟨v,s1,rfl,?_⟩
   have h:(match(generalizing:=false) v with
    | .uu (.slice none 0 0)=>true
    | .gs K 0 0 3=>(match(generalizing:=false) mget s1.m K with|some (.gro 3 (N+1) q)=>!((Sq.toL .und q 0 (N+1)).isEmpty)|_=>false)
    |_=>false)=true:=h
   split at h
   .exact .inl rfl
   .rename_i K _
    split at h
    .rename_i N q hq
     exact .inr ⟨K,N,q,rfl,hq,by simpa using h⟩
    .cases h
   .cases h
 obtain⟨v,s1,hr,hv⟩:=key
 have hc:CallOk [] Tryz.prog f [nilV,.nn .i64 n] stE v s1:=M7 (D:=[]) (P:= Tryz.prog) (pr:=prims []) (tb:=locT) (n:=5) (Ru L4) (Ni (λp hp=>by cases hp)) hm hr (λx hx=>by
  simp only[q5j,q5r,or_false]at hx;rcases hx with rfl|rfl
  .exact⟨rfl,by simp[nilV]⟩
  .exact⟨trivial,by simp⟩) (PR [])
 refine⟨hc.callable,λus w H β hargs _ _ hon=>?_⟩
 have ha:AVs (λ_=>none) H ([nilV,.nn .i64 n].map (qp [])) us:=by
  match us,hargs with
  |[],h=>exact h.elim
  |[_],⟨_,h⟩=>exact h.elim
  |[a,b],⟨h1,h2,_⟩=>exact⟨h1,h2,trivial⟩
  |_::_::_::_,⟨_,_,h⟩=>exact h.elim
 refine Calls.mono (hc.calls us w H (λ_=>none) ha ⟨λk b hb=>(hn k b hb).elim,λk b hb=>(hn k b hb).elim,λk k' b b' hb=>(hn k b hb).elim⟩ hon λ_ _ _=>rfl) ?_
 rintro e w' ⟨u,H',β1,rfl,hst,hsat,hM⟩
 have hkeep: ∀b,b<w.heap.size->w'.heap[b]?=w.heap[b]?:=λb hb=>hst.keep b hb λk hk=>by
  cases hk2:mget stE.m k with
  |none=>exact absurd hk2 hk
  |some b2=>exact(hn k b2 hk2).elim
 rcases hv with rfl|⟨K,N,q,rfl,hK,hne⟩
 .refine⟨u,H',λk=>if k=d then none else β k,rfl,⟨hst.os,hst.tape,hst.output,hst.size,λb hb _=>hkeep b hb,hst.hle,hst.hnew,hst.hon,λk hk=>if_neg (by simpa[qt,look]using hk),λk hk b c h0=>?_,λk hk k' hk' hne=>?_⟩,.inl ⟨if_pos rfl,rfl,hsat.1⟩,λk b hb=>?_⟩
  .simp[qt,look]at hk;subst hk;simp at h0
  .simp[qt,look]at hk hk';exact absurd (hk.trans hk'.symm) hne
  .simp at hb;obtain⟨rfl,rfl⟩:=hb
   exact .inl ⟨if_pos rfl,rfl⟩
 .obtain⟨b,c,g1,g2,g3⟩:=(show∃b c,β1 K.num=some (b,c)/\0+0<=c/\u= .slice (some ⟨b,0*3,none⟩) 0 (c-0)from hsat)
  have hr:=hM.rep K _ hK
  have hrg: ∃arr T,w'.heap[b]?=some (.cells arr T (0,0))/\arr.size=c*3:=by
   have hr:(groB 3 (flat [] (Sq.toL .und q 0 (N+1)))).rep β1 w' H' K.num:=hr;have hok:=hc.sok.ok K _ hK
   cases hf:flat [] (Sq.toL .und q 0 (N+1))with
   |nil=>
    have h1:=jG (D:=[]) hok.2;rw[hf]at h1;have:0<(Sq.toL V.und q 0 (N+1)).length:=List.length_pos_iff.2 hne;simp at h1;omega
   |cons x l=>
    rw[hf]at hr;rcases hr with⟨_,h2⟩|⟨b',c',arr,T,h1,h2,h3,_⟩
    .cases h2
    .rw[g1]at h1;cases h1
     exact⟨arr,T,h2,h3⟩
  obtain⟨arr,T,g4,g5⟩:=hrg;have hb:=hM.own K _ hK b c g1;refine⟨u,H',λk=>if k=d then β1 K.num else β k,rfl,⟨hst.os,hst.tape,hst.output,hst.size,λb hb _=>hkeep b hb,hst.hle,hst.hnew,hst.hon,λk hk=>if_neg (by simpa[qt,look]using hk),λk hk b' c' h0=>?_,λk hk k' hk' hne=>?_⟩,.inr ⟨b,c,(if_pos rfl).trans g1,by simpa using g3⟩,λk b' hb'=>?_⟩
  .simp[qt,look]at hk;subst hk
   have h0:β1 K.num=some (b',c'):=by simpa using h0
   refine⟨(hM.own K _ hK b' c' h0).1,?_⟩;rcases hst.own K _ hK b' c' h0 with h4|⟨q',hq',_⟩
   .exact .inl h4
   .cases hk2:mget stE.m q' with
    |none=>exact absurd hk2 hq'
    |some b2=>exact(hn q' b2 hk2).elim
  .simp[qt,look]at hk hk';exact absurd (hk.trans hk'.symm) hne
  .simp at hb';obtain⟨rfl,rfl⟩:=hb'
   exact .inr ⟨b,c,arr,T,(if_pos rfl).trans g1,g4,g5,q64 _,trivial⟩
end
open Go Go.Proofs Go.Proofs.YtknbiadjbdemdaaGreat.Sx
noncomputable section
theorem UU:growB 156 65=true:=by kernel_rfl
def gGr:Op->Option Tmp->(Nat->Option WB)->List WV->HR
 | .call {callee:= .value fx,args:=xs,argTypes:=ts},some d,_,[v,.c (.one (.vl (.slice none 0 0))),.c (.one m)]=>match asN m with
  |some (.i64,_,n)=>bif Aa 156 v then .ok [n<=64] (.c (.one (.gs d 0 3 64))) [] [(d,some (.gro .rat (.n 31) []))]else .bad
  |_=> .bad
 |_,_,_,_=> .bad
theorem Yo{op:Op}{dst:Option Tmp}{ty:TypeId}{bl:Nat->Option WB}{vs:List WV}(hl:op.operands.toList.length=vs.length):HOk Tryz.prog op ty op.operands.toList vs bl (gGr op dst bl vs):=by
 unfold gGr;split
 .rename_i fx xs ts d v m
  split
  .rename_i nb n hn
   cases hf:Aa 156 v with
   |false=>exact trivial
   |true=>
    simp only[cond_true];intro hv _ hvc kin hk _;rw[qh hk,GU];rw[GU]at hl;have hle:n<=64:=hvc _ q5l;refine⟨?_,⟨q64 _,rfl⟩,vX (λx hx=>by cases hx)⟩;show OpOk _ _ ty ((fx,v.exp)::List.zip xs.toList [.c (.one (.val (.slice none 0 0))),(WV.c (.one m)).exp]) [] (.c (.one (.gs d 0))) [(d,some (.grow 3 []))];rw[Bw hf,j8 (jA hn).1];exact DJ (by simp at hl;simp;omega) (UV hmix (UT UU n (by omega)) d)
  .exact trivial
 .exact trivial
def extGr:Ext Tryz.prog:=⟨gGr,Yo⟩
end
end Go.Proofs.YtknbiadjbdemdaaGreat.Sx.Kx
