/-
Own laws and walks for the claim, part 8: KzC, KzD, KzE, KzF, KzG, KzH, KzI, KzJ, KzK, KxU, KxX, KxX2, KxY, KxY2, KxX3, KxX4, KzC0. No condition.
-/
import Derived.Test.YtjemkhmahjnfaaaGreatP7
import Derived.Test.YtjemkhmahjnfaaaGreatProg
import Derived.KernelRfl
namespace Go.Proofs.YtjemkhmahjnfaaaGreat.Sx.Kx
open Go
set_option linter.unusedVariables false
set_option linter.unusedSimpArgs false
noncomputable section
section
variable {v2:V} {s2:S}
theorem jz{a b:Bool}:jj a b=true↔a=true∧b=true:=by cases a<;>cases b<;>simp[jj]
theorem O2(a b:IntKind):keqF a b=keq a b:=by cases a<;>cases b<;>rfl
theorem O1(k:IntKind):kLim k=lim k:=by cases k<;>rfl
theorem IZ(a:Bool):notB a=!a:=by cases a<;>rfl
theorem Ia{x:V}{f:IntKind→Nat→RO}{z:V→RO}(h:qNN x f z= .ok v2 s2):(∃k n,x= .nn k n∧f k n= .ok v2 s2)∨((∀k n,x≠ .nn k n)∧z x= .ok v2 s2):=by
 cases x<;>first|exact .inl ⟨_,_,rfl,h⟩|exact .inr ⟨by simp,h⟩
theorem UB{x:V}{f:Nat→RO}(h:qN x f= .ok v2 s2): ∃k n,x= .nn k n∧f n= .ok v2 s2:=by
 cases x<;>first|exact⟨_,_,rfl,h⟩|cases h
theorem E9{x:V}{f:Key→Nat→RO}{g:Key→Nat→Nat→Nat→RO}(h:qP x f g= .ok v2 s2):(∃k o,x= .pp k o∧f k o= .ok v2 s2)∨(∃k i o w,x= .ee k i o w∧g k i o w= .ok v2 s2):=by
 cases x<;>first|exact .inl ⟨_,_,rfl,h⟩|exact .inr ⟨_,_,_,_,rfl,h⟩|cases h
theorem UC{x:V}{f:Key→Nat→Nat→Nat→Nat→RO}{g:Key→Nat→Nat→Nat→RO}{z:V→RO}(h:qS x f g z= .ok v2 s2):
  (∃k lo n c w,x= .sl k lo n c w∧f k lo n c w= .ok v2 s2)∨(∃k lo n w,x= .gs k lo n w∧g k lo n w= .ok v2 s2)∨z x= .ok v2 s2:=by
 cases x<;>first|exact .inl ⟨_,_,_,_,_,rfl,h⟩|exact .inr (.inl ⟨_,_,_,_,rfl,h⟩)|exact .inr (.inr h)
theorem PR{x:V}{f:Bool→RO}(h:qB x f= .ok v2 s2): ∃b,x= .bb b∧f b= .ok v2 s2:=by cases x<;>first|exact⟨_,rfl,h⟩|cases h
theorem q18{x:V}{f:Bool→RO}{z:RO}(h:qG x f z= .ok v2 s2):(∃b,x= .bb b∧f b= .ok v2 s2)∨(x= .tu []∧z= .ok v2 s2):=by
 cases x with
 |bb b=>exact .inl ⟨b,rfl,h⟩
 |tu l=>cases l with
  |nil=>exact .inr ⟨rfl,h⟩
  |cons _ _=>cases h
 |_=>cases h
theorem UA{x:V}{z:RO}(h:qD x z= .ok v2 s2):x≠ .und∧z= .ok v2 s2:=by cases x<;>first|exact⟨by simp,h⟩|cases h
theorem AY{x:V}{f:V→RO}(h:qF x f= .ok v2 s2):x≠ .und∧f x= .ok v2 s2:=by cases x<;>first|exact⟨by simp,h⟩|cases h
theorem PS{x:V}{f:V→RO}(h:qK x f= .ok v2 s2):isC x=true∧f x= .ok v2 s2:=by cases x<;>first|exact⟨rfl,h⟩|cases h
theorem q19{x:V}{f:List V→RO}(h:qT x f= .ok v2 s2): ∃l,x= .tu l∧f l= .ok v2 s2:=by cases x<;>first|exact⟨_,rfl,h⟩|cases h
theorem vp{b:Bool}{t:List Nat}{z:RO}(h: @Bool.rec (fun _=>RO) (.no t) z b= .ok v2 s2):b=true∧z= .ok v2 s2:=by cases b<;>first|exact⟨rfl,h⟩|cases h
theorem L7{b:Bool}{t:List Nat}{z:RO}(h: @Bool.rec (fun _=>RO) z (.no t) b= .ok v2 s2):b=false∧z= .ok v2 s2:=by cases b<;>first|exact⟨rfl,h⟩|cases h
theorem q1a{x:V}{s:Nat}{y z:RO}(h:qX x s y z= .ok v2 s2):isC x=true∧x.size=s∧((x.un=true∧y= .ok v2 s2)∨z= .ok v2 s2):=by
 cases x with
 |und=>cases h
 |tu l=>cases h
 |ag w l=>obtain⟨h1,h2⟩:=vp h;exact⟨rfl,q2m h1,.inr h2⟩
 |_=>obtain⟨h1,h2⟩:=vp h;exact⟨rfl,q2m h1,.inl ⟨rfl,h2⟩⟩
theorem HT{k:IntKind}{c:Nat}{K:V→RO}(h:nnK k c K= .ok v2 s2):K (nnW k c)= .ok v2 s2:=by
 unfold nnK at h
 cases hb:Nat.blt c (kLim k)with
 |true=>
  rw[hb]at h
  unfold nnW
  rw[←O1,hb];exact h
 |false=>rw[hb]at h;exact h
theorem UW{op:BinOp}{k:IntKind}{a b:Nat}{K:V→RO}(h:(binH op).f k a b K= .ok v2 s2):binN op k a b≠ .und∧K (binN op k a b)= .ok v2 s2:=by
 have hw: ∀c,nnW k c≠ .und:=fun c=>by
  have:=(C6 [] k c).1
  intro e;rw[e]at this;cases this
 cases op with
 |add=>exact⟨hw _,HT h⟩
 |mul=>exact⟨hw _,HT h⟩
 |sub=>
  have h: @Bool.rec (fun _=>RO) (qF (binI .sub k a b) K) (K (.nn k (Nat.sub a b))) (jj (Nat.ble b a) (Nat.blt a (kLim k)))= .ok v2 s2:=h
  have e:jj (Nat.ble b a) (Nat.blt a (kLim k))=(Nat.ble b a&&Nat.blt a (lim k)):=by rw[O1];cases Nat.ble b a<;>rfl
  rw[e]at h
  show @Bool.rec (fun _=>V) (binI .sub k a b) (.nn k (Nat.sub a b)) (Nat.ble b a&&Nat.blt a (lim k))≠ .und∧K (@Bool.rec (fun _=>V) (binI .sub k a b) (.nn k (Nat.sub a b)) (Nat.ble b a&&Nat.blt a (lim k)))=_
  cases hb:Nat.ble b a&&Nat.blt a (lim k)with
  |true=>rw[hb]at h;exact⟨by simp,h⟩
  |false=>rw[hb]at h;exact AY h
 |quo=>
  obtain⟨h1,h2⟩:=L7 h
  have e:binN .quo k a b=nnW k (Nat.div a b):=by show @Bool.rec (fun _=>V) _ _ (Nat.beq b 0)=_;rw[h1]
  rw[e];exact⟨hw _,HT h2⟩
 |rem=>
  obtain⟨h1,h2⟩:=L7 h
  have e:binN .rem k a b= .nn k (Nat.mod a b):=by show @Bool.rec (fun _=>V) _ _ (Nat.beq b 0)=_;rw[h1]
  rw[e];exact⟨by simp,h2⟩
 |eql=>exact⟨by simp[binN],h⟩
 |neq=>have h:K (.bb (notB (Nat.beq a b)))=_:=h;rw[IZ]at h;exact⟨by simp[binN],h⟩
 |lss=>exact⟨by simp[binN],h⟩
 |leq=>exact⟨by simp[binN],h⟩
 |gtr=>exact⟨by simp[binN],h⟩
 |geq=>exact⟨by simp[binN],h⟩
 |_=>exact AY h
theorem M1(m:j0)(k:Key):zm m k=mget m k:=by
 have e4: ∀(d:D16)(m:j0),mg4 d m=m.get d:=by intro d m;cases d<;>rfl
 have e3: ∀(d:D16) m,mg3 d m=N16.get m d:=by intro d m;cases d<;>rfl
 have e2: ∀(d:D16) m,mg2 d m=N16.get m d:=by intro d m;cases d<;>rfl
 have e1: ∀(d:D16) m,mg1 d m=N16.get m d:=by intro d m;cases d<;>rfl
 obtain⟨a,b,c,d⟩:=k
 show mg1 d (mg2 c (mg3 b (mg4 a m)))=_
 rw[e1,e2,e3,e4];rfl
theorem M5(m:j0)(k:Key)(v:Option KB):As m k v=mset m k v:=by
 have e4: ∀(d:D16)(m:j0),mg4 d m=m.get d:=by intro d m;cases d<;>rfl
 have e3: ∀(d:D16) m,mg3 d m=N16.get m d:=by intro d m;cases d<;>rfl
 have e2: ∀(d:D16) m,mg2 d m=N16.get m d:=by intro d m;cases d<;>rfl
 have s4: ∀(d:D16)(m:j0) x,ms4 d m x=m.set d x:=by intro d m x;cases d<;>rfl
 have s3: ∀(d:D16) m x,ms3 d m x=N16.set m d x:=by intro d m x;cases d<;>rfl
 have s2: ∀(d:D16) m x,ms2 d m x=N16.set m d x:=by intro d m x;cases d<;>rfl
 have s1: ∀(d:D16) m x,ms1 d m x=N16.set m d x:=by intro d m x;cases d<;>rfl
 obtain⟨a,b,c,d⟩:=k
 show ms4 a m (ms3 b (mg4 a m) (ms2 c (mg3 b (mg4 a m)) (ms1 d (mg2 c (mg3 b (mg4 a m))) v)))=_
 rw[s4,s3,s2,s1,e2,e3,e4];rfl
theorem BD{v:V}{l a c:List V}{o:Nat}(hw:v.wd≤o)(h0:0<o)(h:cut l (o-v.wd)=some (a,c)):cut (v::l) o=some (v::a,c):=by
 obtain⟨p,rfl⟩: ∃p,o=p+1:=⟨o-1,by omega⟩
 rw[Ln,if_pos hw,h]
theorem NI{v:V}(l:List V)(h:v.wd=1):cut (v::l) 1=some ([v],l):=BD (by omega) (by omega) (by rw[h];exact A3 l)
theorem ZH{v:V}{f:V→RO}(h:uAt v f= .ok v2 s2): ∃u r,f u= .ok v2 s2∧u.on=true∧ ∀l,cut (v::l) 1=some ([u],r++l):=by
 cases v with
 |und=>cases h
 |tu l=>cases h
 |ag w l=>cases h
 |qq s n d=>exact⟨.bb s,[.mg n,.mg (if d=1 then 0 else d)],h,rfl,fun l=>rfl⟩
 |_=>exact⟨_,[],h,rfl,fun l=>NI l rfl⟩
theorem ifbeq(d:Nat):(@Bool.rec (fun _=>Nat) d 0 (Nat.beq d 1))=if d=1 then 0 else d:=by
 by_cases h:d=1
 ·subst h;rfl
 ·rw[jh h,if_neg h]
theorem R5: ∀{l:List V}{o:Nat}{f:V→RO},ldL l o f= .ok v2 s2→ ∃a u r,f u= .ok v2 s2∧u.on=true∧carve l o 1=some (a,[u],r)
 |[],o,f,h=>by cases h
 |v::l,0,f,h=>by
  obtain⟨u,r,h1,h2,h3⟩:=ZH (show uAt v f= .ok v2 s2 from h)
  refine⟨[],u,r++l,h1,h2,?_⟩
  unfold carve
  rw[A3]
  simp only
  rw[h3]
 |v::l,p+1,f,h=>by
  have h:CM v (fun q=>ldL l q f) p f= .ok v2 s2:=h
  have step:v.wd≤p+1→ldL l (p+1-v.wd) f= .ok v2 s2→ ∃a u r,f u= .ok v2 s2∧u.on=true∧carve (v::l) (p+1) 1=some (a,[u],r):=by
   intro hw h
   obtain⟨a,u,r,h1,h2,h3⟩:=R5 h
   unfold carve at h3
   split at h3
   ·rename_i a' c hc
    split at h3
    ·rename_i m' r' hc2
     cases h3
     refine⟨v::a,u,r,h1,h2,?_⟩
     unfold carve
     rw[BD hw (by omega) hc]
     simp only
     rw[hc2]
    ·cases h3
   ·cases h3
  cases v with
  |und=>cases h
  |tu l=>cases h
  |ag w l=>cases h
  |qq s n d=>
   match p,h,step with
   |0,h,step=>exact⟨[.bb s],.mg n,.mg (if d=1 then 0 else d)::l,h,rfl,rfl⟩
   |1,h,step=>
    have h:f (.mg (@Bool.rec (fun _=>Nat) d 0 (Nat.beq d 1)))= .ok v2 s2:=h
    rw[ifbeq]at h
    exact⟨[.bb s,.mg n],.mg (if d=1 then 0 else d),l,h,rfl,by
    unfold carve
    have e:cut (V.qq s n d::l) (1+1)=some ([.bb s,.mg n],.mg (if d=1 then 0 else d)::l):=rfl
    rw[e]
    simp only
    rw[NI l rfl]⟩
   |q+2,h,step=>exact step (by show 3≤q+2+1;omega) h
  |_=>exact step (by show 1≤p+1;omega) h
theorem VD{v u:V}{o:Nat}{a r:List V}(ks:List (Key×KB))(h:carve v.us o 1=some (a,[u],r))(hu:u.on=true):ldS false 1 v o ks= .val u ks:=by
 unfold ldS
 rw[h]
 simp only
 have:mkV false 1 [u]=u:=by show @Bool.rec (fun _=>V) .und u u.on=u;rw[hu]
 rw[this]
 cases u<;>first|rfl|cases hu
theorem DV{v u:V}{o:Nat}{a r:List V}(ks:List (Key×KB))(h1:(Nat.beq o 0&&Nat.beq 1 v.size&&xorB false v.on)=false)(h2:carve v.us o 1=some (a,[u],r))(h3:u.on=true):ldG false 1 v o ks= .val u ks:=by
 unfold ldG
 rw[h1];exact VD ks h2 h3
theorem LS{v:V}{o:Nat}{f:V→RO}(ks:List (Key×KB))(h:ld1 v o f= .ok v2 s2): ∃u,u≠ .und∧f u= .ok v2 s2∧ldG false 1 v o ks= .val u ks:=by
 have one: ∀{x:V},x.on=true→v=x→(@Nat.rec (fun _=>RO) (f x) (fun _ _=> .no [94]) o= .ok v2 s2)→ ∃u,u≠ .und∧f u= .ok v2 s2∧ldG false 1 v o ks= .val u ks:=by
  intro x hx e h
  subst e
  cases o with
  |succ p=>cases h
  |zero=>
   refine⟨v,okC_ne' hx,h,?_⟩
   unfold ldG
   have:(Nat.beq 0 0&&Nat.beq 1 v.size&&xorB false v.on)=true:=by
    rw[hx]
    have:v.size=1:=by cases v<;>first|rfl|cases hx
    rw[this];rfl
   rw[this]
 cases v with
 |und=>cases h
 |tu l=>cases h
 |ag w l=>
  obtain⟨a,u,r,h1,h2,h3⟩:=R5 (show ldL l o f= .ok v2 s2 from h)
  exact⟨u,okC_ne' h2,h1,DV ks (by simp[V.on,xorB]) h3 h2⟩
 |qq s n d=>
  match o,h with
  |0,h=>exact⟨.bb s,by simp,h,DV ks rfl (a:=[]) (r:=[.mg n,.mg (if d=1 then 0 else d)]) rfl rfl⟩
  |1,h=>exact⟨.mg n,by simp,h,DV ks rfl (a:=[.bb s]) (r:=[.mg (if d=1 then 0 else d)]) rfl rfl⟩
  |2,h=>
   have h:f (.mg (@Bool.rec (fun _=>Nat) d 0 (Nat.beq d 1)))= .ok v2 s2:=h
   rw[ifbeq]at h
   exact⟨_,by simp,h,DV ks rfl (a:=[.bb s,.mg n]) (r:=[]) rfl rfl⟩
  |o+3,h=>cases h
 |_=>exact one rfl rfl h
where okC_ne' {v:V} (h:v.on=true):v≠ .und:=fun e=>by subst e;cases h
theorem VE{g:Bool}{s:Nat}{v:V}{o:Nat}(ks:List (Key×KB))(h:(ldS g s v o []).res≠ .und):ldS g s v o ks= .val (ldS g s v o []).res ks:=by
 unfold ldS at h⊢
 cases hc:carve v.us o s with
 |none=>rw[hc]at h;exact absurd rfl h
 |some p=>
  obtain⟨a,l,r⟩:=p
  rw[hc]at h
  simp only at h⊢
  cases hm:mkV g s l<;>first|(rw[hm]at h;exact absurd rfl h)|rfl
theorem IP: ∀{l:List V}{o:Nat}{f:V→RO}{z:RO},ldL3 l o f z= .ok v2 s2→(∃a u r,f u= .ok v2 s2∧(∃s n d,u= .qq s n d)∧carve l o 3=some (a,[u],r))∨z= .ok v2 s2
 |[],o,f,z,h=> .inr h
 |v::l,0,f,z,h=>by
  cases v with
  |qq s n d=>
   refine .inl ⟨[],.qq s n d,l,h,⟨s,n,d,rfl⟩,?_⟩
   unfold carve
   rw[A3]
   simp only
   rw[BD (v:= .qq s n d) (q2r 3) (by omega) (A3 l)]
  |_=>exact .inr h
 |v::l,p+1,f,z,h=>by
  have step:v.wd≤p+1→ldL3 l (p+1-v.wd) f z= .ok v2 s2→(∃a u r,f u= .ok v2 s2∧(∃s n d,u= .qq s n d)∧carve (v::l) (p+1) 3=some (a,[u],r))∨z= .ok v2 s2:=by
   intro hw h
   rcases IP h with⟨a,u,r,h1,h2,h3⟩|h
   ·left
    unfold carve at h3
    split at h3
    ·rename_i a' c hc
     split at h3
     ·rename_i m' r' hc2
      cases h3
      refine⟨v::a,u,r,h1,h2,?_⟩
      unfold carve
      rw[BD hw (by omega) hc]
      simp only
      rw[hc2]
     ·cases h3
    ·cases h3
   ·exact .inr h
  cases v with
  |und=>exact .inr h
  |tu l=>exact .inr h
  |ag w l=>exact .inr h
  |qq s n d=>
   match p,h,step with
   |0,h,step=>exact .inr h
   |1,h,step=>exact .inr h
   |q+2,h,step=>exact step (by show 3≤q+2+1;omega) h
  |_=>exact step (by show 1≤p+1;omega) h
theorem LT{v:V}{s o:Nat}{K:V→RO}(ks:List (Key×KB))(h:ldA v s o K (qF (ldS true s v o []).res K)= .ok v2 s2): ∃u,u≠ .und∧K u= .ok v2 s2∧ldG true s v o ks= .val u ks:=by
 have slow:(Nat.beq o 0&&Nat.beq s v.size&&xorB true v.on)=false→qF (ldS true s v o []).res K= .ok v2 s2→ ∃u,u≠ .und∧K u= .ok v2 s2∧ldG true s v o ks= .val u ks:=by
  intro h1 h2
  obtain⟨q1,q2⟩:=AY h2
  refine⟨_,q1,q2,?_⟩
  unfold ldG
  rw[h1];exact VE ks q1
 cases v with
 |und=>cases h
 |tu l=>cases h
 |ag w l=>
  have h: @Bool.rec (fun _=>RO) (@Bool.rec (fun _=>RO) _ (ldL3 l o K _) (Nat.beq s 3)) (K (.ag w l)) (@Bool.rec (fun _=>Bool) false (Nat.beq s w) (Nat.beq o 0))= .ok v2 s2:=h
  cases ho:Nat.beq o 0 with
  |true=>
   rw[ho]at h
   cases hs:Nat.beq s w with
   |true=>
    rw[hs]at h
    refine⟨.ag w l,by simp,h,?_⟩
    unfold ldG
    have:(Nat.beq o 0&&Nat.beq s (V.ag w l).size&&xorB true (V.ag w l).on)=true:=by
     show(Nat.beq o 0&&Nat.beq s w&&true)=true;rw[ho,hs];rfl
    rw[this]
   |false=>
    rw[hs]at h
    have hc:(Nat.beq o 0&&Nat.beq s (V.ag w l).size&&xorB true (V.ag w l).on)=false:=by
     show(Nat.beq o 0&&Nat.beq s w&&true)=false;rw[hs];simp
    cases h3:Nat.beq s 3 with
    |false=>rw[h3]at h;exact slow hc h
    |true=>
     rw[h3]at h
     have h3:=q2m h3
     subst h3
     rcases IP h with⟨a,u,r,h1,⟨sg,n,d,rfl⟩,h4⟩|h
     ·refine⟨_,by simp,h1,?_⟩
      unfold ldG
      rw[hc]
      show ldS true 3 (.ag w l) o ks=_
      unfold ldS
      rw[show(V.ag w l).us=l from rfl,h4];rfl
     ·exact slow hc h
  |false=>
   rw[ho]at h
   have hc:(Nat.beq o 0&&Nat.beq s (V.ag w l).size&&xorB true (V.ag w l).on)=false:=by rw[ho];rfl
   cases h3:Nat.beq s 3 with
   |false=>rw[h3]at h;exact slow hc h
   |true=>
    rw[h3]at h
    have h3:=q2m h3
    subst h3
    rcases IP h with⟨a,u,r,h1,⟨sg,n,d,rfl⟩,h4⟩|h
    ·refine⟨_,by simp,h1,?_⟩
     unfold ldG
     rw[hc]
     show ldS true 3 (.ag w l) o ks=_
     unfold ldS
     rw[show(V.ag w l).us=l from rfl,h4];rfl
    ·exact slow hc h
 |qq sg n d=>
  have h: @Bool.rec (fun _=>RO) _ (K (.qq sg n d)) (@Bool.rec (fun _=>Bool) false (Nat.beq s 3) (Nat.beq o 0))= .ok v2 s2:=h
  cases ho:Nat.beq o 0 with
  |true=>
   rw[ho]at h
   cases hs:Nat.beq s 3 with
   |true=>
    rw[hs]at h
    refine⟨_,by simp,h,?_⟩
    unfold ldG
    have:(Nat.beq o 0&&Nat.beq s (V.qq sg n d).size&&xorB true (V.qq sg n d).on)=true:=by
     show(Nat.beq o 0&&Nat.beq s 3&&true)=true;rw[ho,hs];rfl
    rw[this]
   |false=>
    rw[hs]at h
    exact slow (by show(Nat.beq o 0&&Nat.beq s 3&&true)=false;rw[hs];simp) h
  |false=>rw[ho]at h;exact slow (by rw[ho];rfl) h
 |_=>exact slow (by simp[V.on,xorB]) h
theorem Mo{g:Bool}{s:Nat}{v:V}{o:Nat}{K:V→RO}(ks:List (Key×KB))(hs:g=false→s=1)(h:wL g s v o K= .ok v2 s2): ∃u,u≠ .und∧K u= .ok v2 s2∧ldG g s v o ks= .val u ks:=by
 cases g with
 |true=>exact LT ks h
 |false=>have:=hs rfl;subst this;exact LS ks h
theorem LN{b:Option KB}{f:V→RO}(h:kbB b f= .ok v2 s2): ∃v,b=some (.bx v)∧f v= .ok v2 s2:=by
 cases b with
 |none=>cases h
 |some b=>cases b<;>first|exact⟨_,rfl,h⟩|cases h
theorem LO{b:Option KB}{f g:Nat→Nat→Sq V→RO}(h:kbR b f g= .ok v2 s2):(∃es n q,b=some (.arr es n q)∧f es n q= .ok v2 s2)∨(∃es n q,b=some (.gro es n q)∧g es n q= .ok v2 s2):=by
 cases b with
 |none=>cases h
 |some b=>cases b<;>first|exact .inl ⟨_,_,_,rfl,h⟩|exact .inr ⟨_,_,_,rfl,h⟩|cases h
theorem FN {P : Program} {t : TypeId} {g : Bool} {s : Nat} {m : j0} {p : V} {K : V → RO} {part : V → Nat → RO} (hs : qA P t = some (g, s))
  (hp : ∀ v o ks, part v o = .ok v2 s2 → ∃ u, u ≠ .und ∧ K u = .ok v2 s2 ∧ ldG g s v o ks = .val u ks)
  (h : qP p (fun k o => kbB (zm m k) fun v => part v o)
   (fun k i o w => kbR (zm m k) (fun es n q => @Bool.rec (fun _ => RO) (.no [98]) (part (Sq.get .und q i) o) (jj (Nat.beq w es) (Nat.blt i n)))
    (fun es n q => @Bool.rec (fun _ => RO) (.no [98]) (part (Sq.get .und q i) o) (jj (Nat.beq w es) (Nat.blt i n)))) = .ok v2 s2) :
  ∃ u ks, u ≠ .und ∧ K u = .ok v2 s2 ∧ jb P m t p = .val u ks := by
 have hv : ∀ v o ks, ldV P t v o ks = ldG g s v o ks := fun v o ks => by unfold ldV; rw [hs]
 rcases E9 h with ⟨k, o, e, h'⟩ | ⟨k, i, o, w, e, h'⟩ <;> subst e <;> rw [M1] at h'
 ·obtain ⟨v, hb, h'⟩ := LN h'
  obtain ⟨u, h1, h2, h3⟩ := hp v o [(k, .bx v)] h'
  refine ⟨u, [(k, .bx v)], h1, h2, ?_⟩
  simp only [jb, hb]
  rw [hv]; exact h3
 ·rcases LO h' with ⟨es, n, q, hb, h'⟩ | ⟨es, n, q, hb, h'⟩ <;> obtain ⟨hc, h'⟩ := vp h'
  ·obtain ⟨u, h1, h2, h3⟩ := hp _ o [(k, .arr es n q)] h'
   refine ⟨u, [(k, .arr es n q)], h1, h2, ?_⟩
   simp only [jb, hb]
   rw [jz] at hc
   rw [hc.1, hc.2, hv]; exact h3
  ·obtain ⟨u, h1, h2, h3⟩ := hp _ o [(k, .gro es n q)] h'
   refine ⟨u, [(k, .gro es n q)], h1, h2, ?_⟩
   simp only [jb, hb]
   rw [jz] at hc
   rw [hc.1, hc.2, hv]; exact h3
theorem q1p{x:V}(h:x.un=true):x.us=[x]:=by cases x<;>first|rfl|cases h
theorem S7{x:V}: ∀{l:List V}{o w:Nat}{f:List V→RO}{z:RO},stL l o x w f z= .ok v2 s2→(∃a u r,f (a++x::r)= .ok v2 s2∧carve l o w=some (a,[u],r))∨z= .ok v2 s2
 |[],o,w,f,z,h=> .inr h
 |v::l,0,w,f,z,h=>by
  have h:CN v w (f (x::l)) z= .ok v2 s2:=h
  have key: ∀n:Nat,v.wd=n→0<n→(@Bool.rec (fun _=>RO) z (f (x::l)) (Nat.beq w n))= .ok v2 s2→(∃a u r,f (a++x::r)= .ok v2 s2∧carve (v::l) 0 w=some (a,[u],r))∨z= .ok v2 s2:=by
   intro n hn h0 h
   cases hb:Nat.beq w n with
   |false=>rw[hb]at h;exact .inr h
   |true=>
    rw[hb]at h
    have:=q2m hb
    subst this
    refine .inl ⟨[],v,l,h,?_⟩
    unfold carve
    rw[A3]
    simp only
    rw[BD (Nat.le_of_eq hn) h0 (by rw[hn,Nat.sub_self];exact A3 l)]
  cases v with
  |und=>exact .inr h
  |tu l=>exact .inr h
  |ag w l=>exact .inr h
  |qq s n d=>exact key 3 rfl (by omega) h
  |_=>exact key 1 rfl (by omega) h
 |v::l,p+1,w,f,z,h=>by
  have h:CO v p (fun q=>stL l q x w (fun l=>f (v::l)) z) z= .ok v2 s2:=h
  have step:v.wd≤p+1→stL l (p+1-v.wd) x w (fun l=>f (v::l)) z= .ok v2 s2→(∃a u r,f (a++x::r)= .ok v2 s2∧carve (v::l) (p+1) w=some (a,[u],r))∨z= .ok v2 s2:=by
   intro hw h
   rcases S7 h with⟨a,u,r,h1,h3⟩|h
   ·left
    unfold carve at h3
    split at h3
    ·rename_i a' c hc
     split at h3
     ·rename_i m' r' hc2
      cases h3
      refine⟨v::a,u,r,h1,?_⟩
      unfold carve
      rw[BD hw (by omega) hc]
      simp only
      rw[hc2]
     ·cases h3
    ·cases h3
   ·exact .inr h
  cases v with
  |und=>exact .inr h
  |tu l=>exact .inr h
  |ag w l=>exact .inr h
  |qq s n d=>
   match p,h,step with
   |0,h,step=>exact .inr h
   |1,h,step=>exact .inr h
   |q+2,h,step=>exact step (by show 3≤q+2+1;omega) h
  |_=>exact step (by show 1≤p+1;omega) h
theorem O5{v x:V}{o s:Nat}{K:V→RO}(h:layF v o s x K= .ok v2 s2):isC x=true∧x.size=s∧ ∃y,putV v o s x=some y∧K y= .ok v2 s2:=by
 unfold layF at h
 obtain⟨h1,h2,h3⟩:=q1a h
 refine⟨h1,h2,?_⟩
 have slow:(@Option.rec V (fun _=>RO) (.no [96]) K (putV v o s x)= .ok v2 s2)→ ∃y,putV v o s x=some y∧K y= .ok v2 s2:=by
  intro h
  cases hp:putV v o s x with
  |none=>rw[hp]at h;cases h
  |some y=>rw[hp]at h;exact⟨y,rfl,h⟩
 rcases h3 with⟨hu,h⟩|h
 ·generalize hz:(@Option.rec V (fun _=>RO) (.no [96]) K (putV v o s x))=z at h slow
  have whole: ∀w:Nat,v.size=w→(@Bool.rec (fun _=>RO) z (K x) (@Bool.rec (fun _=>Bool) false (Nat.beq s w) (Nat.beq o 0)))= .ok v2 s2→ ∃y,putV v o s x=some y∧K y= .ok v2 s2:=by
   intro w hw h
   cases ho:Nat.beq o 0 with
   |false=>rw[ho]at h;exact slow h
   |true=>
    rw[ho]at h
    cases hs:Nat.beq s w with
    |false=>rw[hs]at h;exact slow h
    |true=>
     rw[hs]at h
     refine⟨x,?_,h⟩
     unfold putV
     rw[ho,hw,hs];rfl
  cases v with
  |und=>cases h
  |tu l=>cases h
  |ag w l=>
   have h: @Bool.rec (fun _=>RO) (stL l o x s (fun l=>K (.ag w l)) z) (K x) (@Bool.rec (fun _=>Bool) false (Nat.beq s w) (Nat.beq o 0))= .ok v2 s2:=h
   have part:(Nat.beq o 0&&Nat.beq s w)=false→stL l o x s (fun l=>K (.ag w l)) z= .ok v2 s2→ ∃y,putV (.ag w l) o s x=some y∧K y= .ok v2 s2:=by
    intro hc h
    rcases S7 h with⟨a,u,r,h4,h5⟩|h
    ·refine⟨_,?_,h4⟩
     unfold putV
     rw[show(V.ag w l).size=w from rfl,hc,show(V.ag w l).us=l from rfl,h5,q1p hu];rfl
    ·exact slow h
   cases ho:Nat.beq o 0 with
   |false=>rw[ho]at h;exact part (by rw[ho];rfl) h
   |true=>
    rw[ho]at h
    cases hs:Nat.beq s w with
    |false=>rw[hs]at h;exact part (by rw[hs];simp) h
    |true=>
     rw[hs]at h
     refine⟨x,?_,h⟩
     unfold putV
     rw[show(V.ag w l).size=w from rfl,ho,hs];rfl
  |qq sg n d=>exact whole 3 rfl h
  |_=>exact whole 1 rfl h
 ·exact slow h
theorem J8{S0:S}{k:Key}{b:KB}{K:V→S→RO}(h:setS S0 k b K= .ok v2 s2):K (.tu []) ⟨mset S0.m k (some b),S0.nx,S0.dn,S0.sc⟩= .ok v2 s2:=by
 obtain⟨m,nx,dn,sc⟩:=S0
 have h:K (.tu []) ⟨As m k (some b),nx,dn,sc⟩= .ok v2 s2:=h
 rw[M5]at h;exact h
theorem Sa{P:Program}{t:TypeId}{g:Bool}{s:Nat}{S0:S}{p x:V}{K:V→S→RO}(hs:qA P t=some (g,s))(h:Ax s S0 p x K= .ok v2 s2):
  ∃s1,ap S0 (wR P S0.m t p x)= .ok (.tu []) s1∧K (.tu []) s1= .ok v2 s2:=by
 unfold Ax at h
 rcases E9 h with⟨k,o,e,h'⟩|⟨k,i,o,w,e,h'⟩<;>subst e<;>rw[M1]at h'
 ·obtain⟨v,hb,h'⟩:=LN h'
  obtain⟨h1,h2,y,h3,h4⟩:=O5 h'
  refine⟨_,?_,J8 h4⟩
  have:wR P S0.m t (.pp k o) x= .wr (.tu []) [(k,.bx v)] k (.bx y):=by
   simp only[wR,hs,hb,h3]
   rw[h2,h1,Nat.beq_refl];rfl
  rw[this];rfl
 ·rcases LO h' with⟨es,n,q,hb,h'⟩|⟨es,n,q,hb,h'⟩<;>obtain⟨hc,h'⟩:=vp h'<;>obtain⟨h1,h2,y,h3,h4⟩:=O5 h'<;>rw[jz]at hc
  ·refine⟨_,?_,J8 h4⟩
   have:wR P S0.m t (.ee k i o w) x= .wr (.tu []) [(k,.arr es n q)] k (.arr es n (Sq.set y q i)):=by
    simp only[wR,hs,hb,h3]
    rw[h2,h1,Nat.beq_refl,hc.1,hc.2];rfl
   rw[this];rfl
  ·refine⟨_,?_,J8 h4⟩
   have:wR P S0.m t (.ee k i o w) x= .wr (.tu []) [(k,.gro es n q)] k (.gro es n (Sq.set y q i)):=by
    simp only[wR,hs,hb,h3]
    rw[h2,h1,Nat.beq_refl,hc.1,hc.2];rfl
   rw[this];rfl
theorem HV{d:D16}{f:D16→RO}{z:RO}(h:nxD d f z= .ok v2 s2):(∃d',d.next=some d'∧f d'= .ok v2 s2)∨(d.next=none∧z= .ok v2 s2):=by
 cases d<;>first|exact .inl ⟨_,rfl,h⟩|exact .inr ⟨rfl,h⟩
theorem TZ{k:Key}{f:Key→RO}(h:Bv k f= .ok v2 s2): ∃k',k.succ=some k'∧f k'= .ok v2 s2:=by
 obtain⟨a,b,c,d⟩:=k
 rcases HV (show nxD d _ _= .ok v2 s2 from h)with⟨d',e,h⟩|⟨ed,h⟩
 ·exact⟨_,by simp only[Key.succ,e],h⟩
 rcases HV h with⟨d',e,h⟩|⟨ec,h⟩
 ·exact⟨_,by simp only[Key.succ,ed,e],h⟩
 rcases HV h with⟨d',e,h⟩|⟨eb,h⟩
 ·exact⟨_,by simp only[Key.succ,ed,ec,e],h⟩
 rcases HV h with⟨d',e,h⟩|⟨ea,h⟩
 ·exact⟨_,by simp only[Key.succ,ed,ec,eb,e],h⟩
 cases h
theorem Og{S0:S}{v:V}{K:V→S→RO}(h:newF S0 v K= .ok v2 s2): ∃s1,ap S0 (.nw (.pp S0.nx 0) [] (.bx v))= .ok (.pp S0.nx 0) s1∧K (.pp S0.nx 0) s1= .ok v2 s2:=by
 obtain⟨m,nx,dn,sc⟩:=S0
 have h:Bv nx (fun k'=>K (.pp nx 0) ⟨As m nx (some (.bx v)),k',dn,sc⟩)= .ok v2 s2:=h
 obtain⟨k',e,h⟩:=TZ h
 rw[M5]at h
 refine⟨_,?_,h⟩
 show putK m nx dn sc _ _=_
 unfold putK
 rw[e]
theorem F7{r:RO}{K:V→S→RO}(h:roK r K= .ok v2 s2): ∃v s,r= .ok v s∧K v s= .ok v2 s2:=by cases r<;>first|exact⟨_,_,rfl,h⟩|cases h
end
end
noncomputable section
section
variable {v2:V} {s2:S}
theorem Vm(a b:D16)(e:qa):(gTab a b).f e=KG a b e:=by cases a<;>cases b<;>rfl
theorem Wz(a b:D16)(v:V)(e:qa):(sTab a b).f v e=Pi a b v e:=by cases a<;>cases b<;>rfl
theorem q0B{t:Nat}(ht:Nat.blt t 256=true)(e:qa):(gT t).f e=slot e t:=by unfold gT slot;rw[Vm,ht]
theorem q1g(t:Nat)(v:V)(e:qa):(sT t).f v e=eset e t v:=by unfold sT eset;rw[Wz]
theorem NS{X:Type}{v:V}{f:V→Option X}{x:X}(h:frcV v f none=some x):v≠ .und∧f v=some x:=by cases v<;>first|exact⟨by simp,h⟩|cases h
variable {α:Type} {P:Program} {loc D:Nat} {m:Mp α} {fr:α} {e' e:qa}
def SrcOk(loc:Nat)(fr:α)(e' e:qa)(t:Nat):Src α→Prop
 | .c v=>slot e t=v∧v≠ .und
 | .g d n f=>(d=true→slot e t≠ .und)∧(∀e'',(∀t',n=t'+1→slot e'' t'=slot e' t')→f fr e''=slot e t)∧ ∀t',n=t'+1→Nat.testBit loc t'=false
 | .dead=>True
structure Inv (loc D:Nat) (m:Mp α) (fr:α) (e' e:qa):Prop where
 ag: ∀t,Nat.testBit loc t=false→slot e' t=slot e t
 mp: ∀t x,vh t m=some x→Nat.testBit loc t=true∧SrcOk loc fr e' e t x
 df: ∀t,Nat.testBit D t=true→slot e t≠ .und
theorem wX{x:Operand}{y:Src α}(h:src loc D m x=some y)(hi:Inv loc D m fr e' e):
  (∀v,y= .c v→qe e x=v∧v≠ .und)∧ ∀d n f,y= .g d n f→f fr e'=qe e x∧(d=true→qe e x≠ .und)∧(∀e'',(∀t',n=t'+1→slot e'' t'=slot e' t')→f fr e''=qe e x)∧ ∀t',n=t'+1→Nat.testBit loc t'=false:=by
 cases x with
 |tmp t=>
  show _
  have h:(bif Nat.testBit loc t then(match vh t m with|some .dead=>none|y=>y)else(bif Nat.blt t 256 then(match gT t with|⟨f⟩=>some (.g (Nat.testBit D t) (t+1) fun _ e=>f e))else none))=some y:=h
  cases hl:Nat.testBit loc t with
  |true=>
   rw[hl,cond_true]at h
   have h:vh t m=some y:=by
    split at h
    ·cases h
    ·exact h
   obtain⟨_,h2⟩:=hi.mp t y h
   refine⟨fun v e=>?_,fun d n f e=>?_⟩
   ·subst e;exact h2
   ·subst e;exact⟨h2.2.1 e' fun _ _=>rfl,h2.1,h2.2.1,h2.2.2⟩
  |false=>
   rw[hl,cond_false]at h
   cases hb:Nat.blt t 256 with
   |false=>rw[hb]at h;cases h
   |true=>
    rw[hb,cond_true]at h
    have hg: ∀e'',(gT t).f e''=slot e'' t:=fun e''=>q0B hb e''
    generalize gT t=q at h hg
    obtain⟨f0⟩:=q
    cases h
    refine⟨fun v e=>(by cases e),fun d n f eq=>?_⟩
    cases eq
    have hag:=hi.ag t hl
    refine⟨(by show f0 e'=slot e t;rw[←hag];exact hg e'),hi.df t,fun e'' he=>?_,fun t' ht=>(by have e1:t=t':=Nat.succ.inj ht;rw[←e1];exact hl)⟩
    show f0 e''=slot e t
    rw[←hag,←he t rfl];exact hg e''
 |const v=>
  obtain⟨h1,h2⟩:=NS (show frcV (jI v) _ none=some y from h)
  cases h2
  exact⟨fun u eq=>by cases eq;exact⟨rfl,h1⟩,fun d n f eq=>by cases eq⟩
 |global g=>cases h
 |func f=>cases h;exact⟨fun u eq=>by cases eq;exact⟨rfl,by simp⟩,fun d n f eq=>by cases eq⟩
theorem qW{x:Operand}{g:GV α}(h:gv loc D m x=some g)(hi:Inv loc D m fr e' e):g.f fr e'=qe e x:=by
 unfold gv at h
 split at h
 ·rename_i v hs;cases h;exact((wX hs hi).1 v rfl).1.symm
 ·rename_i d n f hs;cases h;exact((wX hs hi).2 d n f rfl).1
 ·cases h
theorem QR{x:Operand}{g:GV α}(h:gvD loc D m x=some g)(hi:Inv loc D m fr e' e):g.f fr e'=qe e x∧qe e x≠ .und:=by
 unfold gvD at h
 split at h
 ·rename_i v hs;cases h
  have:=(wX hs hi).1 v rfl
  exact⟨this.1.symm,by rw[this.1];exact this.2⟩
 ·rename_i n f hs;cases h
  have:=(wX hs hi).2 true n f rfl
  exact⟨this.1,this.2.1 rfl⟩
 ·cases h
theorem B7: ∀{xs:List Operand}{l:VL α},gvs loc D m xs=some l→Inv loc D m fr e' e→l.f fr e'=evs e xs
 |[],l,h,hi=>by cases h;rfl
 |x::r,l,h,hi=>by
  unfold gvs at h
  split at h
  ·rename_i g l' h1 h2
   cases h
   show g fr e'::l' fr e'=qe e x::evs e r
   rw[←qW h1 hi,←B7 h2 hi]
  ·cases h
theorem D5: ∀{xs:List Operand}{l:CD α}{z:RO},dfs loc D m xs=some l→Inv loc D m fr e' e→l.f fr e' z= .ok v2 s2→(∀x∈xs,qe e x≠ .und)∧z= .ok v2 s2
 |[],l,z,h,hi,hz=>by cases h;exact⟨fun x hx=>(by simp at hx),hz⟩
 |x::r,l,z,h,hi,hz=>by
  unfold dfs at h
  split at h
  ·rename_i v hs
   obtain⟨h1,h2⟩:=D5 h hi hz
   have:=(wX hs hi).1 v rfl
   exact⟨fun y hy=>by rcases q22.1 hy with rfl|hy;(rw[this.1];exact this.2);exact h1 y hy,h2⟩
  ·rename_i n f hs
   obtain⟨h1,h2⟩:=D5 h hi hz
   have:=(wX hs hi).2 true n f rfl
   exact⟨fun y hy=>by rcases q22.1 hy with rfl|hy;exact this.2.1 rfl;exact h1 y hy,h2⟩
  ·rename_i n f l' hs hl
   cases h
   obtain⟨h3,h4⟩:=UA (show qD (f fr e') (l' fr e' z)= .ok v2 s2 from hz)
   obtain⟨h1,h2⟩:=D5 hl hi h4
   have:=(wX hs hi).2 false n f rfl
   exact⟨fun y hy=>by rcases q22.1 hy with rfl|hy;(rw[←this.1];exact h3);exact h1 y hy,h2⟩
  ·cases h
theorem WQ{r:KR}(h:Vl r)(hr:r.res≠ .und):r= .val r.res []:=by
 rcases h with rfl|⟨v,rfl⟩
 ·exact absurd rfl hr
 ·rfl
theorem TJ{v:V}(h:v≠ .und):retV v= .val v []:=by cases v<;>first|rfl|exact absurd rfl h
def Told(P:Program)(e:qa)(s:S)(op:Op)(K:V→RO)(v2:V)(s2:S):Prop:= ∃v,v≠ .und∧(∀rc,vF rc P e s op= .ok v s)∧K v= .ok v2 s2
theorem told{s:S}{op:Op}{K:V→RO}{v:V}(hv:v≠ .und){ks:List (Key×KB)}(h: ∀rc,vF rc P e s op=ap s (kop P e s.m s.nx op))(hk:kop P e s.m s.nx op= .val v ks)(hK:K v= .ok v2 s2):Told P e s op K v2 s2:=
 ⟨v,hv,fun rc=>by rw[h rc,hk];rfl,hK⟩
theorem z8{s:S}{op:Op}{K:V→RO}{r:KR}(h: ∀rc,vF rc P e s op=ap s (kop P e s.m s.nx op))(hk:kop P e s.m s.nx op=r)(hr:Vl r)(hK:qF r.res K= .ok v2 s2):Told P e s op K v2 s2:=by
 obtain⟨h1,h2⟩:=AY hK
 exact told h1 h (hk.trans (WQ hr h1)) h2
theorem Oh: ∀(i:Nat){l:List V}{K:V→RO},(nthC i).f l K= .ok v2 s2→ ∃v,l[i]?=some v∧v≠ .und∧K v= .ok v2 s2
 |0,[],K,h=>by cases h
 |0,v::l,K,h=>⟨v,rfl,AY h⟩
 |i+1,[],K,h=>by
  unfold nthC at h
  revert h;generalize nthC i=q;obtain⟨g⟩:=q;intro h;cases h
 |i+1,v::l,K,h=>by
  have:(nthC i).f l K= .ok v2 s2:=by
   unfold nthC at h
   revert h;generalize nthC i=q;obtain⟨g⟩:=q;intro h;exact h
  exact Oh i this
theorem SU{op:Op}{h:VC α}{s:S}{K:V→RO}(hc:Pf P loc D m op=some h)(hi:Inv loc D m fr e' e)(hv:h.f fr e' s K= .ok v2 s2):Told P e s op K v2 s2:=by
 have hc:vd P loc D m op=some h:=by
  have:Pf P loc D m op=Lm.1 P loc D m op:=rfl
  rw[this,Lm.2]at hc;exact hc
 cases op with
 |load t x=>
  unfold vd at hc
  simp only at hc
  split at hc
  ·rename_i g sz hg hs
   cases hc
   have hg:=qW hg hi
   obtain⟨u,ks,h1,h2,h3⟩:=FN (K:=K) (part:=fun v o=>ldA v sz o K (qF (ldS true sz v o []).res K)) hs (fun v o ks h=>LT ks h) hv
   exact told h1 (fun rc=>rfl) (by show jb P s.m t (qe e x)=_;rw[←hg];exact h3) h2
  ·rename_i g hg hs
   cases hc
   have hg:=qW hg hi
   obtain⟨u,ks,h1,h2,h3⟩:=FN (K:=K) (part:=fun v o=>ld1 v o K) hs (fun v o ks h=>LS ks h) hv
   exact told h1 (fun rc=>rfl) (by show jb P s.m t (qe e x)=_;rw[←hg];exact h3) h2
  ·cases hc
 |binOp op t x y yt=>
  unfold vd at hc
  simp only at hc
  split at hc
  ·rename_i gx sy hgx hsy
   have hx:=qW hgx hi
   cases hsh:isSh op with
   |true=>
    rw[hsh,cond_true]at hc
    split at hc
    ·rename_i gy hgy
     cases hc
     have hy:=qW hgy hi
     exact z8 (fun rc=>rfl) (by show kBin P op t (qe e x) (qe e y)=_;rw[←hx,←hy]) Dt hv
    ·cases hc
   |false=>
    rw[hsh,cond_false]at hc
    have hnn: ∀{k k':IntKind}{a b:Nat},keqF k k'=true→(binH op).f k a b K= .ok v2 s2→qe e x= .nn k a→qe e y= .nn k' b→Told P e s (.binOp op t x y yt) K v2 s2:=by
     intro k k' a b hk hb ex ey
     obtain⟨h1,h2⟩:=UW hb
     refine told h1 (fun rc=>rfl) (ks:=[]) ?_ h2
     show kBin P op t (qe e x) (qe e y)=_
     rw[ex,ey]
     rw[O2]at hk
     show @Bool.rec (fun _=>KR) (@Bool.rec (fun _=>KR) .bad (retV (binN op k a b)) (keq k k')) (retV (shN op k a b)) (isSh op)=_
     rw[hsh,hk];exact TJ h1
    generalize hbh:binH op=bh at hc hnn
    obtain⟨hf⟩:=bh
    cases sy with
    |c u=>
     have hy:=((wX hsy hi).1 u rfl).1
     have gen:some (⟨fun fr e _ K=>qF (kBin P op t (gx fr e) u).res K⟩:VC α)=some h→Told P e s (.binOp op t x y yt) K v2 s2:=by
      intro hc
      cases hc
      exact z8 (fun rc=>rfl) (by show kBin P op t (qe e x) (qe e y)=_;rw[hy,←hx]) Dt hv
     cases u with
     |nn kc c=>
      cases hc
      rcases Ia hv with⟨k,a,ex,h⟩|⟨hn,h⟩
      ·obtain⟨hk,h⟩:=vp h
       exact hnn hk h (by rw[←hx];exact ex) hy
      ·exact z8 (fun rc=>rfl) (by show kBin P op t (qe e x) (qe e y)=_;rw[hy,←hx]) Dt h
     |_=>exact gen hc
    |dead=>cases hc
    |g d n gy=>
     have hy:=((wX hsy hi).2 d n gy rfl).1
     cases hc
     rcases Ia hv with⟨k,a,ex,h⟩|⟨hn,h⟩
     ·rcases Ia h with⟨k',b,ey,h⟩|⟨hn,h⟩
      ·obtain⟨hk,h⟩:=vp h
       exact hnn hk h (by rw[←hx];exact ex) (by rw[←hy];exact ey)
      ·have ex:qe e x= .nn k a:=by rw[←hx];exact ex
       exact z8 (fun rc=>rfl) (by show kBin P op t (qe e x) (qe e y)=_;rw[←hy,ex]) Dt h
     ·exact z8 (fun rc=>rfl) (by show kBin P op t (qe e x) (qe e y)=_;rw[←hy,←hx]) Dt h
  ·cases hc
 |fieldAddr st x f=>
  unfold vd at hc
  simp only at hc
  split at hc
  ·rename_i g ft sz hg hf
   have hx:g fr e'=qe e x:=qW hg hi
   cases hz:Nat.beq sz 0 with
   |true=>rw[hz]at hc;cases hc
   |false=>
    rw[hz,cond_false]at hc;cases hc
    rcases E9 hv with⟨k,o,ex,h⟩|⟨k,i,o,w,ex,h⟩
    ·refine told (by simp) (fun rc=>rfl) (ks:=[]) ?_ h
     show jQ P st f (qe e x)=_
     rw[←hx,ex];simp only[jQ,hf,hz];rfl
    ·refine told (by simp) (fun rc=>rfl) (ks:=[]) ?_ h
     show jQ P st f (qe e x)=_
     rw[←hx,ex];simp only[jQ,hf,hz];rfl
  ·rename_i g fo ft sz hne hg hf
   have hx:g fr e'=qe e x:=qW hg hi
   cases hz:Nat.beq sz 0 with
   |true=>rw[hz]at hc;cases hc
   |false=>
    rw[hz,cond_false]at hc;cases hc
    rcases E9 hv with⟨k,o,ex,h⟩|⟨k,i,o,w,ex,h⟩
    ·refine told (by simp) (fun rc=>rfl) (ks:=[]) ?_ h
     show jQ P st f (qe e x)=_
     rw[←hx,ex];simp only[jQ,hf,hz];rfl
    ·refine told (by simp) (fun rc=>rfl) (ks:=[]) ?_ h
     show jQ P st f (qe e x)=_
     rw[←hx,ex];simp only[jQ,hf,hz];rfl
  ·cases hc
 |indexAddr t x y=>
  unfold vd at hc
  simp only at hc
  split at hc
  ·rename_i gx gy hgx hgy
   have hx:gx fr e'=qe e x:=qW hgx hi
   have hy:gy fr e'=qe e y:=qW hgy hi
   split at hc
   ·rename_i n sz ha
    cases hc
    obtain⟨kk,j,ey,h⟩:=UB hv
    rcases E9 h with⟨k,o,ex,h⟩|⟨k,q,o,w,ex,h⟩<;>obtain⟨hb,h⟩:=vp h
    ·refine told (by simp) (fun rc=>rfl) (ks:=[]) ?_ h
     show jR P t (qe e x) (qe e y)=_
     rw[←hx,ex,←hy,ey];simp only[jR,ha,hb];rfl
    ·refine told (by simp) (fun rc=>rfl) (ks:=[]) ?_ h
     show jR P t (qe e x) (qe e y)=_
     rw[←hx,ex,←hy,ey];simp only[jR,ha,hb];rfl
   ·split at hc
    ·rename_i es ha
     cases hc
     obtain⟨kk,j,ey,h⟩:=UB hv
     rcases UC h with⟨k,lo,n,c,w,ex,h⟩|⟨k,lo,n,w,ex,h⟩|h
     ·obtain⟨hb,h⟩:=vp h
      rw[jz]at hb
      refine told (by simp) (fun rc=>rfl) (ks:=[]) ?_ h
      show jR P t (qe e x) (qe e y)=_
      rw[←hx,ex,←hy,ey];simp only[jR,ha];rw[hb.1,hb.2];rfl
     ·obtain⟨hb,h⟩:=vp h
      rw[jz]at hb
      refine told (by simp) (fun rc=>rfl) (ks:=[]) ?_ h
      show jR P t (qe e x) (qe e y)=_
      rw[←hx,ex,←hy,ey];simp only[jR,ha];rw[hb.1,hb.2];rfl
     ·cases h
    ·cases hc
  ·cases hc
 |nilCheck x=>
  unfold vd at hc
  simp only at hc
  split at hc
  ·rename_i g hg
   cases hc
   have hx:g fr e'=qe e x:=qW hg hi
   rcases E9 hv with⟨k,o,ex,h⟩|⟨k,i,o,w,ex,h⟩
   ·exact told (by simp) (fun rc=>rfl) (ks:=[]) (by show wt (qe e x)=_;rw[←hx,ex];rfl) h
   ·exact told (by simp) (fun rc=>rfl) (ks:=[]) (by show wt (qe e x)=_;rw[←hx,ex];rfl) h
  ·cases hc
 |unOp o t x=>
  have gen: ∀{g:GV α},gv loc D m x=some g→some (⟨fun fr e _ K=>qF (kUn P o (g.f fr e)).res K⟩:VC α)=some h→Told P e s (.unOp o t x) K v2 s2:=by
   intro g hg hc
   cases hc
   exact z8 (fun rc=>rfl) (by show kUn P o (qe e x)=_;rw[←qW hg hi]) (UJ (P:=P)) hv
  unfold vd at hc
  cases o with
  |not=>
   simp only at hc
   split at hc
   ·rename_i g hg
    cases hc
    have hx:g fr e'=qe e x:=qW hg hi
    obtain⟨b,ex,h⟩:=PR hv
    exact told (by simp) (fun rc=>rfl) (ks:=[]) (by show kUn P .not (qe e x)=_;rw[←hx,ex,IZ];rfl) h
   ·cases hc
  |_=>
   simp only at hc
   split at hc
   ·rename_i g hg;exact gen hg hc
   ·cases hc
 |pick c x y=>
  unfold vd at hc
  simp only at hc
  split at hc
  ·rename_i gx gy gc hgx hgy hgc
   cases hc
   obtain⟨hx,nx⟩:=QR hgx hi
   obtain⟨hy,ny⟩:=QR hgy hi
   have hx:gx fr e'=qe e x:=hx
   have hy:gy fr e'=qe e y:=hy
   have hcc:gc fr e'=qe e c:=qW hgc hi
   obtain⟨b,ec,h⟩:=PR hv
   have hk:Cs (qe e c) (qe e x) (qe e y)= .val (@Bool.rec (fun _=>V) (qe e y) (qe e x) b) []:=by
    rw[←hcc,ec]
    show @Bool.rec (fun _=>KR) _ _ (isU (qe e x)||isU (qe e y))=_
    have ux:isU (qe e x)=false:=by cases hq:qe e x<;>first|rfl|exact absurd hq nx
    have uy:isU (qe e y)=false:=by cases hq:qe e y<;>first|rfl|exact absurd hq ny
    rw[ux,uy];rfl
   cases b with
   |true=>rw[hx]at h;exact told nx (fun rc=>rfl) hk h
   |false=>rw[hy]at h;exact told ny (fun rc=>rfl) hk h
  ·split at hc
   ·rename_i gx gy gc hgx hgy hgc
    cases hc
    have hx:gx fr e'=qe e x:=qW hgx hi
    have hy:gy fr e'=qe e y:=qW hgy hi
    have hcc:gc fr e'=qe e c:=qW hgc hi
    exact z8 (fun rc=>rfl) (by show Cs (qe e c) (qe e x) (qe e y)=_;rw[←hx,←hy,←hcc]) OU hv
   ·cases hc
 |convert st t x=>
  unfold vd at hc
  simp only at hc
  split at hc
  ·rename_i g k us hg hk hs
   cases hc
   have hx:g fr e'=qe e x:=qW hg hi
   have hkc:zU P s.m st t (qe e x)=Cr P st t (qe e x):=by unfold zU;rw[hk]
   rcases Ia hv with⟨kk,n,ex,h⟩|⟨hn,h⟩
   ·have h:=HT h
    refine told (by have:=(C6 [] k n).1;intro e0;rw[e0]at this;cases this) (fun rc=>rfl) (ks:=[]) ?_ h
    show zU P s.m st t (qe e x)=_
    rw[hkc,←hx,ex]
    simp only[Cr,hk,hs];rfl
   ·exact z8 (fun rc=>rfl) (by show zU P s.m st t (qe e x)=_;rw[hkc,←hx]) Jj h
  ·cases hc
 |extract x i=>
  unfold vd at hc
  simp only at hc
  have hc2: ∀(q:NT),q=nthC i→(match gv loc D m x,q with|some ⟨x⟩,⟨g⟩=>some (⟨fun fr e _ K=>qT (x fr e) fun l=>g l K⟩:VC α)|none,_=>none)=some h→Told P e s (.extract x i) K v2 s2:=by
   intro q hq hc
   obtain⟨g⟩:=q
   cases hgx:gv loc D m x with
   |none=>rw[hgx]at hc;cases hc
   |some gx=>
    obtain⟨gx⟩:=gx
    rw[hgx]at hc
    cases hc
    have hx:gx fr e'=qe e x:=qW hgx hi
    obtain⟨l,ex,h⟩:=q19 hv
    have h:(nthC i).f l K= .ok v2 s2:=by rw[←hq];exact h
    obtain⟨v,h1,h2,h3⟩:=Oh i h
    refine told h2 (fun rc=>rfl) (ks:=[]) ?_ h3
    show A7 (qe e x) i=_
    rw[←hx,ex]
    simp only[A7,nth,h1]
  exact hc2 _ rfl hc
 |field st x f=>
  unfold vd at hc
  simp only at hc
  split at hc
  ·rename_i g hg
   cases hc
   have hx:g fr e'=qe e x:=qW hg hi
   exact z8 (fun rc=>rfl) (by show C2 P st f (qe e x)=_;rw[←hx]) MN hv
  ·cases hc
 |index t x y=>
  unfold vd at hc
  simp only at hc
  split at hc
  ·rename_i gx gy hgx hgy
   cases hc
   have hx:gx fr e'=qe e x:=qW hgx hi
   have hy:gy fr e'=qe e y:=qW hgy hi
   exact z8 (fun rc=>rfl) (by show C3 P t (qe e x) (qe e y)=_;rw[←hx,←hy]) MP hv
  ·cases hc
 |build t ps=>
  unfold vd at hc
  simp only at hc
  split at hc
  ·rename_i l hl
   cases hc
   have hx:l fr e'=evs e (ps.toList.map (·.2)):=B7 hl hi
   exact z8 (fun rc=>rfl) (by show C1 P t _ (evs e (ps.toList.map (·.2)))=_;rw[←hx]) MM hv
  ·cases hc
 |makeFunc fn fs cs=>
  unfold vd at hc
  simp only at hc
  split at hc
  ·rename_i l hl
   cases hc
   have hx:l fr e'=evs e cs.toList:=B7 hl hi
   exact z8 (fun rc=>rfl) (by show AT fn fs (evs e cs.toList)=_;rw[←hx]) OS hv
  ·cases hc
 |slice t x lo hi' mx=>
  cases mx with
  |some z=>unfold vd at hc;cases hc
  |none=>
   unfold vd at hc
   simp only at hc
   split at hc
   ·rename_i g hg
    have hx:g fr e'=qe e x:=qW hg hi
    cases lo with
    |none=>cases hi' with
     |none=>
      cases hc
      exact z8 (fun rc=>rfl) (by show zy P t (qe e x) none none=_;rw[←hx]) Cd hv
     |some r=>
      simp only at hc
      split at hc
      ·rename_i gl hgl
       cases hc
       have hl:gl fr e'=qe e r:=qW hgl hi
       exact z8 (fun rc=>rfl) (by show zy P t (qe e x) none (some (qe e r))=_;rw[←hx,←hl]) Cd hv
      ·cases hc
    |some l=>cases hi' with
     |none=>
      simp only at hc
      split at hc
      ·rename_i gl hgl
       cases hc
       have hl:gl fr e'=qe e l:=qW hgl hi
       exact z8 (fun rc=>rfl) (by show zy P t (qe e x) (some (qe e l)) none=_;rw[←hx,←hl]) Cd hv
      ·cases hc
     |some r=>
      simp only at hc
      split at hc
      ·rename_i gl gr hgl hgr
       cases hc
       have hl:gl fr e'=qe e l:=qW hgl hi
       have hr:gr fr e'=qe e r:=qW hgr hi
       exact z8 (fun rc=>rfl) (by show zy P t (qe e x) (some (qe e l)) (some (qe e r))=_;rw[←hx,←hl,←hr]) Cd hv
      ·cases hc
   ·cases hc
 |call c=>
  obtain⟨cl,xs,ts⟩:=c
  unfold vd at hc
  cases cl with
  |builtin b=>
   cases b with
   |len=>
    simp only at hc
    split at hc
    ·rename_i x t hxs hts
     have hop: ∀rc,vF rc P e s (.call {callee:= .builtin .len,args:=xs,argTypes:=ts})=ap s (kop P e s.m s.nx (.call {callee:= .builtin .len,args:=xs,argTypes:=ts})):=fun rc=>rfl
     have hk:kop P e s.m s.nx (.call {callee:= .builtin .len,args:=xs,argTypes:=ts})=kLen P t (qe e x):=by
      show z6 P .len ts.toList (evs e xs.toList) s.m s.nx=_
      rw[hxs,hts];rfl
     split at hc
     ·rename_i g hg
      have hx:g fr e'=qe e x:=qW hg hi
      cases hsl:jx P t with
      |true=>
       rw[hsl,cond_true]at hc
       cases hc
       rcases UC hv with⟨k,lo,n,c,w,ex,h⟩|⟨k,lo,n,w,ex,h⟩|h
       ·exact told (by simp) hop (ks:=[]) (by rw[hk,←hx,ex];simp only[kLen,hsl]) h
       ·exact told (by simp) hop (ks:=[]) (by rw[hk,←hx,ex];simp only[kLen,hsl]) h
       ·exact z8 hop (by rw[hk,←hx]) MR h
      |false=>
       rw[hsl,cond_false]at hc
       cases hc
       exact z8 hop (by rw[hk,←hx]) MR hv
     ·cases hc
    ·cases hc
   |_=>cases hc
  |_=>cases hc
 |_=>unfold vd at hc;cases hc
end
end
noncomputable section
structure RcLe (pr:vQ) (call:FuncId→Row→Nat→S→RO) (rc:FuncId→List V→S→RO):Prop where
 code: ∀f w n s v s',call f w n s= .ok v s'→n≤16∧((ju (rowL w n)).c0=w→(∀x∈rowL w n,x≠ .und)→v≠ .und∧rc f (rowL w n) s= .ok v s')
 prim: ∀f g,pr f=some g→ ∀vs s v s',g vs s= .ok v s'→rc f vs s= .ok v s'
section
variable {v2:V} {s2:S} {α γ:Type} {P:Program} {pr:vQ} {rg:RG γ} {loc D:Nat} {m:Mp α} {fr:α} {e' e:qa} {c:γ} {rc:FuncId→List V→S→RO}
theorem GR: ∀{l:List V},l.length≤16→rowL (ju l).c0 l.length=l:=by
 intro l hl
 apply List.ext_getElem?
 intro i
 unfold rowL
 by_cases hi:i<l.length
 ·rw[q1S hi]
  have hn: ∀j,(h:j<l.length)→l[j]?=some (nthV l j):=fun j h=>by unfold nthV;rw[q1M,q1Q h];rfl
  rw[hn i hi]
  have hi16:i<16:=by omega
  match i,hi16 with
  |0,_=>rfl
  |1,_=>rfl
  |2,_=>rfl
  |3,_=>rfl
  |4,_=>rfl
  |5,_=>rfl
  |6,_=>rfl
  |7,_=>rfl
  |8,_=>rfl
  |9,_=>rfl
  |10,_=>rfl
  |11,_=>rfl
  |12,_=>rfl
  |13,_=>rfl
  |14,_=>rfl
  |15,_=>rfl
  |k+16,h=>omega
 ·rw[q1R (by rw[q1Z];omega),q1R (by omega)]
theorem TO{xs:List Operand}{w:RW α}(h:G6 loc D m xs=some w)(hi:Inv loc D m fr e' e)(hn:xs.length≤16):rowL (w.f fr e') xs.length=evs e xs∧(ju (rowL (w.f fr e') xs.length)).c0=w.f fr e':=by
 match xs,h,hn with
 |[],h,_=>cases h;exact⟨rfl,rfl⟩
 |[a],h,_=>
  unfold G6 at h
  simp only at h
  split at h
  ·rename_i ga hga
   cases h
   have ha:ga fr e'=qe e a:=qW hga hi
   refine⟨?_,rfl⟩
   show[ga fr e']=[qe e a]
   rw[ha]
  ·cases h
 |[a,b],h,_=>
  unfold G6 at h
  simp only at h
  split at h
  ·rename_i ga gb hga hgb
   cases h
   have ha:ga fr e'=qe e a:=qW hga hi
   have hb:gb fr e'=qe e b:=qW hgb hi
   refine⟨?_,rfl⟩
   show[ga fr e',gb fr e']=[qe e a,qe e b]
   rw[ha,hb]
  ·cases h
 |[a,b,d],h,_=>
  unfold G6 at h
  simp only at h
  split at h
  ·rename_i ga gb gd hga hgb hgd
   cases h
   have ha:ga fr e'=qe e a:=qW hga hi
   have hb:gb fr e'=qe e b:=qW hgb hi
   have hd:gd fr e'=qe e d:=qW hgd hi
   refine⟨?_,rfl⟩
   show[ga fr e',gb fr e',gd fr e']=[qe e a,qe e b,qe e d]
   rw[ha,hb,hd]
  ·cases h
 |a::b::d::f::xr,h,hn=>
  unfold G6 at h
  simp only at h
  split at h
  ·rename_i l hl
   cases h
   have hx:l fr e'=evs e (a::b::d::f::xr):=B7 hl hi
   have hlen:(evs e (a::b::d::f::xr)).length=(a::b::d::f::xr).length:=by simp[evs]
   show rowL (ju (l fr e')).c0 _=_∧(ju (rowL (ju (l fr e')).c0 _)).c0=(ju (l fr e')).c0
   rw[hx,←hlen]
   have:=GR (l:=evs e (a::b::d::f::xr)) (by rw[hlen];exact hn)
   exact⟨this,by rw[this]⟩
  ·cases h
theorem Ex{xs:List Operand}(h: ∀x∈xs,qe e x≠ .und):An (evs e xs)=true:=by
 unfold An evs
 rw[List.all_eq_true]
 intro v hv
 obtain⟨x,hx,rfl⟩:=List.mem_map.1 hv
 have:=h x hx
 cases hq:qe e x<;>first|rfl|exact absurd hq this
theorem Ju{l:List V}(h:An l=true): ∀v∈l,v≠ .und:=fun v hv e=>by
 unfold An at h
 have:=List.all_eq_true.1 h v hv
 rw[e]at this;cases this
theorem SS{op:Op}{h:HK α}{s:S}(hc:AQ P loc D m op=some h)(hi:Inv loc D m fr e' e)(rc:FuncId→List V→S→RO):vF rc P e s op=ap s (h.f fr e' s):=by
 cases op with
 |buildSlice t n ps=>
  unfold AQ at hc
  simp only at hc
  split at hc
  ·rename_i l hl
   cases hc
   have hx:l fr e'=evs e (ps.toList.map (·.2)):=B7 hl hi
   show ap s (vW P t n _ (evs e (ps.toList.map (·.2))) s.nx)=ap s (vW P t n _ (l fr e') s.nx)
   rw[hx]
  ·cases hc
 |makeSlice t x y=>
  unfold AQ at hc
  simp only at hc
  split at hc
  ·rename_i gx gy hgx hgy
   cases hc
   have hx:gx fr e'=qe e x:=qW hgx hi
   have hy:gy fr e'=qe e y:=qW hgy hi
   show ap s (zj P t (qe e x) (qe e y) s.nx)=ap s (zj P t (gx fr e') (gy fr e') s.nx)
   rw[hx,hy]
  ·cases hc
 |makeMap t r=>
  cases r with
  |none=>cases hc;rfl
  |some z=>cases hc
 |lookup t x y b=>
  unfold AQ at hc
  simp only at hc
  split at hc
  ·rename_i gx gy hgx hgy
   cases hc
   have hx:gx fr e'=qe e x:=qW hgx hi
   have hy:gy fr e'=qe e y:=qW hgy hi
   show ap s (BI P s.m t b (qe e x) (qe e y))=ap s (BI P s.m t b (gx fr e') (gy fr e'))
   rw[hx,hy]
  ·cases hc
 |mapUpdate t x y z=>
  unfold AQ at hc
  simp only at hc
  split at hc
  ·rename_i gx gy gz hgx hgy hgz
   cases hc
   have hx:gx fr e'=qe e x:=qW hgx hi
   have hy:gy fr e'=qe e y:=qW hgy hi
   have hz:gz fr e'=qe e z:=qW hgz hi
   show ap s (Dc P s.m t (qe e x) (qe e y) (qe e z))=ap s (Dc P s.m t (gx fr e') (gy fr e') (gz fr e'))
   rw[hx,hy,hz]
  ·cases hc
 |convert st t x=>
  unfold AQ at hc
  simp only at hc
  split at hc
  ·rename_i gx hgx
   cases hc
   have hx:gx fr e'=qe e x:=qW hgx hi
   show ap s (zU P s.m st t (qe e x))=ap s (zU P s.m st t (gx fr e'))
   rw[hx]
  ·cases hc
 |call cc=>
  obtain⟨cl,xs,ts⟩:=cc
  unfold AQ at hc
  cases cl with
  |builtin b=>
   simp only at hc
   split at hc
   ·rename_i l hl
    have hx:l fr e'=evs e xs.toList:=B7 hl hi
    have gen:some (⟨fun fr e s=>z6 P b ts.toList (l fr e) s.m s.nx⟩:HK α)=some h→vF rc P e s (.call {callee:= .builtin b,args:=xs,argTypes:=ts})=ap s (h.f fr e' s):=by
     intro hc
     cases hc
     show ap s (z6 P b ts.toList (evs e xs.toList) s.m s.nx)=ap s (z6 P b ts.toList (l fr e') s.m s.nx)
     rw[hx]
    cases b with
    |append=>
     simp only at hc
     split at hc
     ·rename_i t u x y hts hxs
      split at hc
      ·rename_i gx gy hgx hgy
       cases hc
       have hx:gx fr e'=qe e x:=qW hgx hi
       have hy:gy fr e'=qe e y:=qW hgy hi
       show ap s (z6 P .append ts.toList (evs e xs.toList) s.m s.nx)=ap s (Da P t u s.m (gx fr e') (gy fr e') s.nx)
       rw[hts,hxs,hx,hy];rfl
      ·cases hc
     ·cases hc
    |_=>exact gen hc
   ·cases hc
  |_=>cases hc
 |_=>unfold AQ at hc;cases hc
theorem Lk{op:Op}{h:OC γ α}{s:S}{K:V→S→RO}(hr:RcLe pr (rg.f c) rc)(hc:Ko P pr rg loc D m op=some h)(hi:Inv loc D m fr e' e)(hv:h.f c fr e' s K= .ok v2 s2):
  ∃v s1,v≠ .und∧vF rc P e s op= .ok v s1∧K v s1= .ok v2 s2:=by
 have hc:Hr P pr rg loc D m op=some h:=by
  have:Ko P pr rg loc D m op=Lj.1 P pr rg loc D m op:=rfl
  rw[this,Lj.2]at hc;exact hc
 have other:(match AQ P loc D m op with|some ⟨h⟩=>some (⟨fun _ fr e s K=>roK (ap s (h fr e s)) fun v s=>qF v fun v=>K v s⟩:OC γ α)|none=>none)=some h→ ∃v s1,v≠ .und∧vF rc P e s op= .ok v s1∧K v s1= .ok v2 s2:=by
  intro hc
  split at hc
  ·rename_i g hg
   cases hc
   obtain⟨v,s1,h1,h2⟩:=F7 hv
   obtain⟨h3,h4⟩:=AY h2
   exact⟨v,s1,h3,by rw[SS hg hi rc];exact h1,h4⟩
  ·cases hc
 unfold Hr at hc
 cases op with
 |store t x y=>
  simp only at hc
  split at hc
  ·rename_i gx gy g sz hgx hgy hs
   cases hc
   have hx:gx fr e'=qe e x:=qW hgx hi
   have hy:gy fr e'=qe e y:=qW hgy hi
   obtain⟨s1,h1,h2⟩:=Sa (p:=gx fr e') (x:=gy fr e') hs hv
   rw[hx,hy]at h1
   exact⟨_,s1,by simp,h1,h2⟩
  ·cases hc
 |alloc t=>
  simp only at hc
  obtain⟨h1,h2⟩:=NS hc
  cases h2
  obtain⟨s1,h3,h4⟩:=Og hv
  refine⟨_,s1,by simp,?_,h4⟩
  show ap s (C0 P t s.nx)=_
  unfold C0
  have:isU (z9 P t)=false:=by cases hq:z9 P t<;>first|rfl|exact absurd hq h1
  rw[this];exact h3
 |box t x=>
  simp only at hc
  split at hc
  ·rename_i g hg
   cases hc
   have hx:g fr e'=qe e x:=qW hg hi
   obtain⟨h1,h2⟩:=PS hv
   obtain⟨s1,h3,h4⟩:=Og h2
   rw[hx]at h1 h3
   refine⟨_,s1,by simp,?_,h4⟩
   show ap s (kBox s.nx (qe e x))=_
   unfold kBox
   rw[h1];exact h3
  ·cases hc
 |call cc=>
  obtain⟨cl,xs,ts⟩:=cc
  cases cl with
  |builtin b=>exact other hc
  |value f=>
   clear other
   obtain⟨r0⟩:=rg
   have dyn: ∀{gf:GV α}{l:VL α}{d:CD α}{r:γ→FuncId→Row→Nat→S→RO},gv loc D m f=some gf→gvs loc D m xs.toList=some l→dfs loc D m xs.toList=some d→r0=r→
     (@Option.rec (FuncId×List (Key×Nat)) (fun _=>RO) (.no [4]) (fun p=>d.f fr e' (roK ((fun vs=>r c p.1 (ju vs).c0 vs.length s) (l.f fr e'++p.2.map fun p=> .pp p.1 p.2)) K)) (z5 (gf.f fr e'))= .ok v2 s2)→
     ∃v s1,v≠ .und∧vF rc P e s (.call {callee:= .value f,args:=xs,argTypes:=ts})= .ok v s1∧K v s1= .ok v2 s2:=by
    intro gf l d r hgf hl hd hrg hv
    have hf:=qW hgf hi
    have hx:=B7 hl hi
    cases hcal:z5 (gf.f fr e')with
    |none=>rw[hcal]at hv;cases hv
    |some p=>
     rw[hcal]at hv
     obtain⟨g,ps⟩:=p
     obtain⟨h1,h2⟩:=D5 hd hi hv
     obtain⟨v,s1,h3,h4⟩:=F7 h2
     subst hrg
     obtain⟨h5,h7⟩:=hr.code _ _ _ _ _ _ h3
     rw[hx]at h5 h7
     have hao:=Ex h1
     rw[GR h5]at h7
     obtain⟨h6,h7⟩:=h7 rfl fun x hx=>by
      rcases q21.1 hx with hx|hx
      ·exact Ju hao x hx
      ·obtain⟨q,_,rfl⟩:=List.mem_map.1 hx;simp
     refine⟨v,s1,h6,?_,h4⟩
     show kcall rc s (z5 (qe e f)) (evs e xs.toList)=_
     rw[←hf,hcal]
     show @Bool.rec (fun _=>RO) _ _ (An (evs e xs.toList))=_
     rw[hao]
     exact h7
   cases f with
   |func g=>
    simp only at hc
    have hcal:z5 (qe e (.func g))=some (g,[]):=rfl
    split at hc
    ·rename_i h0 hp
     split at hc
     ·rename_i l d hl hd
      cases hc
      have hx:l fr e'=evs e xs.toList:=B7 hl hi
      obtain⟨h1,h2⟩:=D5 hd hi hv
      obtain⟨v,s1,h3,h4⟩:=F7 h2
      obtain⟨h5,h6⟩:=AY h4
      refine⟨v,s1,h5,?_,h6⟩
      show kcall rc s (z5 (qe e (.func g))) (evs e xs.toList)=_
      rw[hcal]
      show @Bool.rec (fun _=>RO) _ (rc g (evs e xs.toList++[]) s) (An (evs e xs.toList))=_
      rw[Ex h1,List.append_nil]
      rw[hx]at h3
      exact hr.prim g h0 hp _ _ _ _ h3
     ·cases hc
    ·split at hc
     ·rename_i w d r hw hd hrg
      cases hrg
      cases hc
      obtain⟨h1,h2⟩:=D5 hd hi hv
      obtain⟨v,s1,h3,h4⟩:=F7 h2
      obtain⟨h5,h7⟩:=hr.code _ _ _ _ _ _ h3
      have hrow:rowL (w fr e') xs.size=evs e xs.toList∧(ju (rowL (w fr e') xs.size)).c0=w fr e':=by
       have:=TO hw hi (by simpa using h5)
       simpa using this
      have hao:=Ex h1
      obtain⟨h6,h7⟩:=h7 hrow.2 (by rw[hrow.1];exact Ju hao)
      rw[hrow.1]at h7
      refine⟨v,s1,h6,?_,h4⟩
      show kcall rc s (z5 (qe e (.func g))) (evs e xs.toList)=_
      rw[hcal]
      show @Bool.rec (fun _=>RO) _ (rc g (evs e xs.toList++[]) s) (An (evs e xs.toList))=_
      rw[hao,List.append_nil]
      exact h7
     ·cases hc
   |tmp t=>
    simp only at hc
    split at hc
    ·rename_i gf l d r hgf hl hd hrg
     cases hrg
     cases hc
     exact dyn hgf hl hd rfl hv
    ·cases hc
   |const t=>
    simp only at hc
    split at hc
    ·rename_i gf l d r hgf hl hd hrg
     cases hrg
     cases hc
     exact dyn hgf hl hd rfl hv
    ·cases hc
   |global t=>
    simp only at hc
    split at hc
    ·rename_i gf l d r hgf hl hd hrg
     cases hrg
     cases hc
     exact dyn hgf hl hd rfl hv
    ·cases hc
  |_=>exact other hc
 |_=>exact other hc
end
end
noncomputable section
section
variable {v2:V} {s2:S} {α γ:Type} {P:Program} {pr:vQ} {rg:RG γ} {loc D:Nat} {m:Mp α} {fr:α} {e' e:qa} {c:γ} {rc:FuncId→List V→S→RO}
theorem Lv(t:Nat): ∀m:Mp α,vh t (upM m)=(vh t m).map Src.up
 |[]=>rfl
 |p::r=>by
  show(bif Nat.beq p.1 t then some p.2.up else vh t (upM r))=Option.map Src.up (bif Nat.beq p.1 t then some p.2 else vh t r)
  cases Nat.beq p.1 t with
  |true=>rfl
  |false=>exact Lv t r
theorem Aq(t t':Nat)(x:Src α)(m:Mp α):vh t ((t',x)::m)=bif Nat.beq t' t then some x else vh t m:=rfl
theorem jg{t:Tmp}(ht:t<256)(v:V)(t':Nat):slot (jo e (some t) v) t'=if t'=t then v else slot e t':=Ca v ht t'
theorem SrcOk.up{t:Nat}{x:Src α}{v:V}(h:SrcOk loc fr e' e t x):SrcOk loc (⟨v,fr⟩:Fm α) e' e t x.up:=by
 cases x with
 |c u=>exact h
 |g d n f=>exact h
 |dead=>trivial
theorem SrcOk.env{t t0:Nat}{x:Src α}{v:V}{e1:qa}(he:slot e1 t=slot e t)(h:SrcOk loc fr e' e t x):SrcOk loc fr e' e1 t x:=by
 cases x with
 |c u=>exact⟨he.trans h.1,h.2⟩
 |g d n f=>exact⟨fun hd=>by rw[he];exact h.1 hd,fun e'' h1=>by rw[he];exact h.2.1 e'' h1,h.2.2⟩
 |dead=>trivial
theorem NX{t:Tmp}{v:V}(hi:Inv loc D m fr e' e)(ht:t<256)(hl:Nat.testBit loc t=true)(hv:v≠ .und):
  Inv loc D ((t,.g true 0 fun fr _=>fr.v)::upM m) (⟨v,fr⟩:Fm α) e' (jo e (some t) v):=by
 refine⟨fun t' h=>?_,fun t' x hx=>?_,fun t' h=>?_⟩
 ·rw[jg ht]
  by_cases e:t'=t
  ·rw[e,hl]at h;cases h
  ·rw[if_neg e];exact hi.ag t' h
 ·rw[Aq]at hx
  cases hb:Nat.beq t t' with
  |true=>
   rw[hb,cond_true]at hx
   have:=q2m hb
   subst this
   cases hx
   have e1:slot (jo e (some t) v) t=v:=by rw[jg ht,if_pos rfl]
   exact⟨hl,fun _=>by rw[e1];exact hv,fun e'' _=>e1.symm,fun t' h=>by cases h⟩
  |false=>
   rw[hb,cond_false,Lv]at hx
   cases hf:vh t' m with
   |none=>rw[hf]at hx;cases hx
   |some y=>
    rw[hf]at hx;cases hx
    obtain⟨h1,h2⟩:=hi.mp t' y hf
    have hne: ¬t'=t:=fun e=>by rw[e]at hb;simp at hb
    exact⟨h1,(h2.env (t0:=0) (v:=v) (by rw[jg ht,if_neg hne])).up⟩
 ·rw[jg ht]
  by_cases e:t'=t
  ·rw[if_pos e];exact hv
  ·rw[if_neg e];exact hi.df t' h
theorem EJ{t:Tmp}{v:V}{x:Src α}(hi:Inv loc D m fr e' e)(ht:t<256)(hl:Nat.testBit loc t=true)(hv:v≠ .und)(hx:SrcOk loc fr e' (jo e (some t) v) t x):
  Inv loc D ((t,x)::m) fr e' (jo e (some t) v):=by
 refine⟨fun t' h=>?_,fun t' y hy=>?_,fun t' h=>?_⟩
 ·rw[jg ht]
  by_cases e:t'=t
  ·rw[e,hl]at h;cases h
  ·rw[if_neg e];exact hi.ag t' h
 ·rw[Aq]at hy
  cases hb:Nat.beq t t' with
  |true=>
   rw[hb,cond_true]at hy
   have:=q2m hb
   subst this
   cases hy
   exact⟨hl,hx⟩
  |false=>
   rw[hb,cond_false]at hy
   obtain⟨h1,h2⟩:=hi.mp t' y hy
   have hne: ¬t'=t:=fun e=>by rw[e]at hb;simp at hb
   exact⟨h1,h2.env (t0:=0) (v:=v) (by rw[jg ht,if_neg hne])⟩
 ·rw[jg ht]
  by_cases e:t'=t
  ·rw[if_pos e];exact hv
  ·rw[if_neg e];exact hi.df t' h
theorem HA{t0 t:Nat}{x:Src α}: ∀{m:Mp α},vh t (zt t0 m)=some x→x= .dead∨(vh t m=some x∧ ∀d n f,x= .g d n f→n≠t0+1)
 |[],h=>by cases h
 |(q,y)::r,h=>by
  have h:(bif Nat.beq q t then some (Pg t0 y)else vh t (zt t0 r))=some x:=h
  rw[Aq]
  cases hb:Nat.beq q t with
  |true=>
   rw[hb,cond_true]at h
   have h:=Option.some.inj h
   subst h
   cases y with
   |c v=>exact .inr ⟨rfl,fun d n f e=>by cases e⟩
   |dead=>exact .inl rfl
   |g d n f=>
    show(bif Nat.beq n (t0+1)then Src.dead else .g d n f)= .dead∨(_=some (bif Nat.beq n (t0+1)then Src.dead else .g d n f)∧ ∀d' n' f',(bif Nat.beq n (t0+1)then Src.dead else .g d n f)= .g d' n' f'→n'≠t0+1)
    cases hn:Nat.beq n (t0+1)with
    |true=>exact .inl rfl
    |false=>exact .inr ⟨rfl,fun d' n' f' e=>by cases e;intro e2;rw[e2]at hn;simp at hn⟩
  |false=>
   rw[hb,cond_false]at h
   exact HA h
theorem BH{t:Tmp}{v:V}(hi:Inv loc D m fr e' e)(ht:t<256)(hl:Nat.testBit loc t=false)(hv:v≠ .und):
  Inv loc (D|||2^t) (zt t m) fr ((sT t).f v e') (jo e (some t) v):=by
 have hs: ∀t',slot ((sT t).f v e') t'=if t'=t then v else slot e' t':=fun t'=>by rw[q1g];exact Ca v ht t'
 refine⟨fun t' h=>?_,fun t' x hx=>?_,fun t' h=>?_⟩
 ·rw[hs,jg ht]
  by_cases e:t'=t
  ·rw[if_pos e,if_pos e]
  ·rw[if_neg e,if_neg e];exact hi.ag t' h
 ·rcases HA hx with rfl|⟨hx,hn⟩
  ·refine⟨?_,trivial⟩
   --its name is still local
   have: ∀m:Mp α,(∀y,vh t' m=some y→Nat.testBit loc t'=true)→ ∀y,vh t' (zt t m)=some y→Nat.testBit loc t'=true:=by
    intro m
    induction m with
    |nil=>intro _ y h;cases h
    |cons p r ih=>
     intro hm y h
     obtain⟨q,z⟩:=p
     have h:(bif Nat.beq q t' then some (Pg t z)else vh t' (zt t r))=some y:=h
     cases hb:Nat.beq q t' with
     |true=>exact hm z (by rw[Aq,hb];rfl)
     |false=>
      rw[hb,cond_false]at h
      exact ih (fun y hy=>hm y (by rw[Aq,hb];exact hy)) y h
   exact this m (fun y hy=>(hi.mp t' y hy).1) _ hx
  ·obtain⟨h1,h2⟩:=hi.mp t' x hx
   have hne: ¬t'=t:=fun e=>by rw[e,hl]at h1;cases h1
   have he:slot (jo e (some t) v) t'=slot e t':=by rw[jg ht,if_neg hne]
   refine⟨h1,?_⟩
   cases x with
   |c u=>exact⟨he.trans h2.1,h2.2⟩
   |dead=>trivial
   |g d n f=>
    refine⟨fun hd=>by rw[he];exact h2.1 hd,fun e'' h3=>?_,h2.2.2⟩
    rw[he]
    refine h2.2.1 e'' fun q hq=>?_
    rw[h3 q hq,hs,if_neg]
    intro e
    subst e
    exact hn d n f rfl hq
 ·rw[jg ht]
  by_cases e:t'=t
  ·rw[if_pos e];exact hv
  ·rw[if_neg e]
   refine hi.df t' ?_
   rw[Nat.testBit_or,Nat.testBit_two_pow,Bool.or_eq_true]at h
   rcases h with h|h
   ·exact h
   ·exact absurd (of_decide_eq_true h).symm e
def Cont(k:Kont γ α)(loc:Nat)(fr:α)(c:γ)(e1:qa)(s1:S)(v2:V)(s2:S):Prop:=
 ∃(β:Type)(p:β→α)(mβ:Mp β)(Dβ:Nat)(fb:β)(eb:qa),p fb=fr∧Inv loc Dβ mβ fb eb e1∧(k β p mβ Dβ).f c fb eb s1= .ok v2 s2
theorem NQ{k:Kont γ α}{dst:Option Tmp}{h:VC α}{s:S}(hd: ∀t,dst=some t→t<256)(hi:Inv loc D m fr e' e)(hf:(finV loc D m k dst h).f c fr e' s= .ok v2 s2):
  ∃K,h.f fr e' s K= .ok v2 s2∧ ∀v,v≠ .und→K v= .ok v2 s2→Cont k loc fr c (jo e dst v) s v2 s2:=by
 have hf:(Kt loc D m k dst h).f c fr e' s= .ok v2 s2:=by
  have:finV loc D m k dst h=Pl.1 loc D m k dst h:=rfl
  rw[this,Pl.2]at hf;exact hf
 obtain⟨h⟩:=h
 unfold Kt at hf
 cases dst with
 |none=>
  simp only at hf
  generalize hk:k α id m D=q at hf
  obtain⟨K⟩:=q
  exact⟨_,hf,fun v hv hK=>⟨α,id,m,D,fr,e',rfl,hi,by rw[hk];exact hK⟩⟩
 |some t=>
  simp only at hf
  cases hl:Nat.testBit loc t with
  |true=>
   rw[hl,cond_true]at hf
   generalize hk:k (Fm α) (fun f=>f.r) ((t,.g true 0 fun fr _=>fr.v)::upM m) D=q at hf
   obtain⟨K⟩:=q
   exact⟨_,hf,fun v hv hK=>⟨Fm α,fun f=>f.r,_,D,⟨v,fr⟩,e',rfl,NX hi (hd t rfl) hl hv,by rw[hk];exact hK⟩⟩
  |false=>
   rw[hl,cond_false]at hf
   generalize hk:k α id (zt t m) (D|||2^t)=q at hf
   generalize hs:sT t=st at hf
   obtain⟨K⟩:=q
   obtain⟨st⟩:=st
   refine⟨_,hf,fun v hv hK=>⟨α,id,_,_,fr,st v e',rfl,?_,by rw[hk];exact hK⟩⟩
   have:=BH (v:=v) hi (hd t rfl) hl hv
   rw[hs]at this;exact this
theorem NP{k:Kont γ α}{dst:Option Tmp}{h:OC γ α}{s:S}(hd: ∀t,dst=some t→t<256)(hi:Inv loc D m fr e' e)(hf:(finO loc D m k dst h).f c fr e' s= .ok v2 s2):
  ∃K,h.f c fr e' s K= .ok v2 s2∧ ∀v s1,v≠ .und→K v s1= .ok v2 s2→Cont k loc fr c (jo e dst v) s1 v2 s2:=by
 have hf:(Kr loc D m k dst h).f c fr e' s= .ok v2 s2:=by
  have:finO loc D m k dst h=Pk.1 loc D m k dst h:=rfl
  rw[this,Pk.2]at hf;exact hf
 obtain⟨h⟩:=h
 unfold Kr at hf
 cases dst with
 |none=>
  simp only at hf
  generalize hk:k α id m D=q at hf
  obtain⟨K⟩:=q
  exact⟨_,hf,fun v s1 hv hK=>⟨α,id,m,D,fr,e',rfl,hi,by rw[hk];exact hK⟩⟩
 |some t=>
  simp only at hf
  cases hl:Nat.testBit loc t with
  |true=>
   rw[hl,cond_true]at hf
   generalize hk:k (Fm α) (fun f=>f.r) ((t,.g true 0 fun fr _=>fr.v)::upM m) D=q at hf
   obtain⟨K⟩:=q
   exact⟨_,hf,fun v s1 hv hK=>⟨Fm α,fun f=>f.r,_,D,⟨v,fr⟩,e',rfl,NX hi (hd t rfl) hl hv,by rw[hk];exact hK⟩⟩
  |false=>
   rw[hl,cond_false]at hf
   generalize hk:k α id (zt t m) (D|||2^t)=q at hf
   generalize hs:sT t=st at hf
   obtain⟨K⟩:=q
   obtain⟨st⟩:=st
   refine⟨_,hf,fun v s1 hv hK=>⟨α,id,_,_,fr,st v e',rfl,?_,by rw[hk];exact hK⟩⟩
   have:=BH (v:=v) hi (hd t rfl) hl hv
   rw[hs]at this;exact this
theorem Vh{k:Kont γ α}{dst:Option Tmp}{x:Operand}{y:Src α}{s:S}(hd: ∀t,dst=some t→t<256)(hi:Inv loc D m fr e' e)(hs:src loc D m x=some y)(hf:(finM loc D m k dst y).f c fr e' s= .ok v2 s2):
  qe e x≠ .und∧Cont k loc fr c (jo e dst (qe e x)) s v2 s2:=by
 have hf:(Kq loc D m k dst y).f c fr e' s= .ok v2 s2:=by
  have:finM loc D m k dst y=Pj.1 loc D m k dst y:=rfl
  rw[this,Pj.2]at hf;exact hf
 have ho:=wX hs hi
 unfold Kq at hf
 cases dst with
 |none=>
  cases y with
  |g d n f=>cases d<;>cases hf
  |_=>cases hf
 |some t=>
  have ht:=hd t rfl
  have e1: ∀v,slot (jo e (some t) v) t=v:=fun v=>by rw[jg ht,if_pos rfl]
  cases y with
  |dead=>cases hf
  |c v=>
   obtain⟨h1,h2⟩:=ho.1 v rfl
   rw[h1]
   refine⟨h2,?_⟩
   simp only at hf
   cases hl:Nat.testBit loc t with
   |true=>
    rw[hl,cond_true]at hf
    exact⟨α,id,_,D,fr,e',rfl,EJ (x:= .c v) hi ht hl h2 ⟨e1 v,h2⟩,hf⟩
   |false=>
    rw[hl,cond_false]at hf
    generalize hk:k α id (zt t m) (D|||2^t)=q at hf
    generalize hst:sT t=st at hf
    obtain⟨K⟩:=q
    obtain⟨st⟩:=st
    have:=BH (v:=v) hi ht hl h2
    rw[hst]at this
    exact⟨α,id,_,_,fr,st v e',rfl,this,by rw[hk];exact hf⟩
  |g d n f=>
   obtain⟨h1,h2,h3,h4⟩:=ho.2 d n f rfl
   have alias:qe e x≠ .und→SrcOk loc fr e' (jo e (some t) (qe e x)) t (.g true n f):=fun hn=>⟨fun _=>by rw[e1];exact hn,fun e'' h=>by rw[e1];exact h3 e'' h,h4⟩
   cases d with
   |true=>
    have hn:=h2 rfl
    refine⟨hn,?_⟩
    simp only at hf
    cases hl:Nat.testBit loc t with
    |true=>
     rw[hl,cond_true]at hf
     exact⟨α,id,_,D,fr,e',rfl,EJ hi ht hl hn (alias hn),hf⟩
    |false=>
     rw[hl,cond_false]at hf
     generalize hk:k α id (zt t m) (D|||2^t)=q at hf
     generalize hst:sT t=st at hf
     obtain⟨K⟩:=q
     obtain⟨st⟩:=st
     have:=BH (v:=qe e x) hi ht hl hn
     rw[hst]at this
     have hf:K c fr (st (f fr e') e') s= .ok v2 s2:=hf
     rw[h1]at hf
     exact⟨α,id,_,_,fr,st (qe e x) e',rfl,this,by rw[hk];exact hf⟩
   |false=>
    simp only at hf
    cases hl:Nat.testBit loc t with
    |true=>
     rw[hl,cond_true]at hf
     generalize hk:k α id ((t,.g true n f)::m) D=q at hf
     obtain⟨K⟩:=q
     obtain⟨hn,hf⟩:=UA (show qD (f fr e') _= .ok v2 s2 from hf)
     rw[h1]at hn
     exact⟨hn,α,id,_,D,fr,e',rfl,EJ hi ht hl hn (alias hn),by rw[hk];exact hf⟩
    |false=>
     rw[hl,cond_false]at hf
     generalize hk:k α id (zt t m) (D|||2^t)=q at hf
     generalize hst:sT t=st at hf
     obtain⟨K⟩:=q
     obtain⟨st⟩:=st
     obtain⟨hn,hf⟩:=AY (show qF (f fr e') (fun v=>K c fr (st v e') s)= .ok v2 s2 from hf)
     rw[h1]at hn hf
     have:=BH (v:=qe e x) hi ht hl hn
     rw[hst]at this
     exact⟨hn,α,id,_,_,fr,st (qe e x) e',rfl,this,by rw[hk];exact hf⟩
theorem Qx{k:Kont γ α}{o:Oper}{s:S}(hr:RcLe pr (rg.f c) rc)(hd: ∀t,o.dst=some t→t<256)(hi:Inv loc D m fr e' e)(hf:(Ll P pr rg loc D m k o).f c fr e' s= .ok v2 s2):
  ∃v s1,v≠ .und∧vF rc P e s o.op= .ok v s1∧Cont k loc fr c (jo e o.dst v) s1 v2 s2:=by
 unfold Ll at hf
 have mv: ∀{x:Operand}{y:Src α},src loc D m x=some y→(o.op= .move x∨o.op= .assign x)→(finM loc D m k o.dst y).f c fr e' s= .ok v2 s2→ ∃v s1,v≠ .und∧vF rc P e s o.op= .ok v s1∧Cont k loc fr c (jo e o.dst v) s1 v2 s2:=by
  intro x y hs hop hf
  obtain⟨h1,h2⟩:=Vh hd hi hs hf
  refine⟨_,s,h1,?_,h2⟩
  have hk:ap s (AU (qe e x))= .ok (qe e x) s:=by
   unfold AU
   have:isU (qe e x)=false:=by cases hq:qe e x<;>first|rfl|exact absurd hq h1
   rw[this];rfl
  rcases hop with h|h<;>rw[h]<;>exact hk
 split at hf
 ·rename_i y hy
  split at hy
  ·rename_i x hop;exact mv hy (.inl hop) hf
  ·rename_i x hop;exact mv hy (.inr hop) hf
  ·cases hy
 ·split at hf
  ·rename_i h hc
   obtain⟨K,h1,h2⟩:=NQ hd hi hf
   obtain⟨v,h3,h4,h5⟩:=SU hc hi h1
   exact⟨v,s,h3,h4 rc,h2 v h3 h5⟩
  ·split at hf
   ·rename_i h hc
    obtain⟨K,h1,h2⟩:=NP hd hi hf
    obtain⟨v,s1,h3,h4,h5⟩:=Lk hr hc hi h1
    exact⟨v,s1,h3,h4,h2 v s1 h3 h5⟩
   ·cases hf
def StepR(rc:FuncId→List V→S→RO)(P:Program)(all:List Oper)(o:Oper)(e:qa)(s:S)(e1:qa)(s1:S):Prop:=
 (jm all e o.guard=some false∧e1=jo e o.dst (.tu [])∧s1=s)∨(jm all e o.guard=some true∧ ∃v,v≠ .und∧vF rc P e s o.op= .ok v s1∧e1=jo e o.dst v)
theorem LA {all : List Oper} {o : Oper} {run skip : CF γ α} {s : S} (hd : ∀ t, o.dst = some t → t < 256) (hi : Inv loc D m fr e' e) (hf : (gdC loc D m all o run skip).f c fr e' s = .ok v2 s2) :
  (jm all e o.guard = some true ∧ run.f c fr e' s = .ok v2 s2) ∨
   (jm all e o.guard = some false ∧ ∃ e1', Inv loc (skD D o.dst) (skM m o.dst) fr e1' (jo e o.dst (.tu [])) ∧ skip.f c fr e1' s = .ok v2 s2) := by
 have hf : (gdC0 loc D m all o run skip).f c fr e' s = .ok v2 s2 := by
  have : gdC loc D m all o run skip = gdCP.1 loc D m all o run skip := rfl
  rw [this, gdCP.2] at hf; exact hf
 unfold gdC0 at hf
 cases hg : o.guard with
 | none => rw [hg] at hf; exact .inl ⟨rfl, hf⟩
 | some jw =>
  obtain ⟨j, w⟩ := jw
  rw [hg] at hf
  simp only at hf
  split at hf
  ·rename_i t ht
   split at hf
   ·rename_i g hgv
    have hx : g fr e' = slot e t := qW hgv hi
    have hgk : ∀ b, slot e t = .bb b → jm all e (some (j, w)) = some (@Bool.rec (fun _ => Bool) (!b) b w) := fun b hb => by
     unfold jm; simp only; rw [ht]; simp only; rw [hb]
    have hgt : slot e t = .tu [] → jm all e (some (j, w)) = some false := fun hb => by
     unfold jm; simp only; rw [ht]; simp only; rw [hb]
    have main : ∀ (A B : RO), qG (g fr e') (fun b => @Bool.rec (fun _ => RO) A B (@Bool.rec (fun _ => Bool) (notB b) b w)) A = .ok v2 s2 →
      (jm all e (some (j, w)) = some true ∧ B = .ok v2 s2) ∨ (jm all e (some (j, w)) = some false ∧ A = .ok v2 s2) := by
     intro A B h
     rcases q18 h with ⟨b, eb, h⟩ | ⟨eb, h⟩
     ·rw [hx] at eb
      rw [hgk b eb]
      rw [IZ] at h
      cases hw : (@Bool.rec (fun _ => Bool) (!b) b w) with
      | true => rw [hw] at h; exact .inl ⟨rfl, h⟩
      | false => rw [hw] at h; exact .inr ⟨rfl, h⟩
     ·rw [hx] at eb
      exact .inr ⟨hgt eb, h⟩
    split at hf
    ·rename_i d hdst
     cases hl : Nat.testBit loc d with
     | true => rw [hl, cond_true] at hf; cases hf
     | false =>
      rw [hl, cond_false] at hf
      generalize hst : sT d = st at hf
      obtain ⟨st⟩ := st
      rcases main _ _ hf with h | ⟨h1, h2⟩
      ·exact .inl h
      ·refine .inr ⟨h1, st (.tu []) e', ?_, h2⟩
       rw [hdst]
       have := BH (v := .tu []) hi (hd d hdst) hl (by simp)
       rw [hst] at this; exact this
    ·rename_i hdst
     rcases main _ _ hf with h | ⟨h1, h2⟩
     ·exact .inl h
     ·refine .inr ⟨h1, e', ?_, h2⟩
      rw [hdst]; exact hi
   ·cases hf
  ·cases hf
theorem Li{k:Kont γ α}{all:List Oper}{o:Oper}{s:S}(hr:RcLe pr (rg.f c) rc)(hd: ∀t,o.dst=some t→t<256)(hi:Inv loc D m fr e' e)(hf:(DH P pr rg loc D m k all o).f c fr e' s= .ok v2 s2):
  ∃e1 s1,StepR rc P all o e s e1 s1∧Cont k loc fr c e1 s1 v2 s2:=by
 unfold DH at hf
 rcases LA hd hi hf with⟨h1,h2⟩|⟨h1,e1',h2,h3⟩
 ·obtain⟨v,s1,h3,h4,h5⟩:=Qx hr hd hi h2
  exact⟨_,s1,.inr ⟨h1,v,h3,h4,rfl⟩,h5⟩
 ·exact⟨_,s,.inl ⟨h1,rfl,rfl⟩,α,id,_,_,fr,e1',rfl,h2,h3⟩
theorem TX{all r:List Oper}{o:Oper}{s s1:S}{e1:qa}(h:StepR rc P all o e s e1 s1):wW rc P all (o::r) e s=wW rc P all r e1 s1:=by
 rcases h with⟨h1,rfl,rfl⟩|⟨h1,v,_,h2,rfl⟩
 ·show @Option.rec Bool (fun _=>R) _ _ (jm all e o.guard)=_
  rw[h1];rfl
 ·show @Option.rec Bool (fun _=>R) _ _ (jm all e o.guard)=_
  rw[h1]
  show @RO.rec (fun _=>R) _ _ _ (vF rc P e s o.op)=_
  rw[h2];rfl
def Am(e e1:qa):Prop:= ∀t,slot e t≠ .und→slot e1 t≠ .und
theorem EL{o:Option Tmp}{v:V}(hd: ∀t,o=some t→t<256)(hv:v≠ .und):Am e (jo e o v):=by
 intro t ht
 cases o with
 |none=>exact ht
 |some d=>
  rw[jg (hd d rfl)]
  split
  ·exact hv
  ·exact ht
theorem StepR.keeps{all:List Oper}{o:Oper}{s s1:S}{e1:qa}(h:StepR rc P all o e s e1 s1)(hd: ∀t,o.dst=some t→t<256):Am e e1∧ ∀t,o.dst=some t→slot e1 t≠ .und:=by
 have key: ∀v:V,v≠ .und→Am e (jo e o.dst v)∧ ∀t,o.dst=some t→slot (jo e o.dst v) t≠ .und:=fun v hv=>⟨EL hd hv,fun t ht=>by rw[ht,jg (hd t ht),if_pos rfl];exact hv⟩
 rcases h with⟨_,rfl,rfl⟩|⟨_,v,hv,_,rfl⟩
 ·exact key _ (by simp)
 ·exact key v hv
theorem Hs{nrm:CK γ}{all:List Oper}(hr:RcLe pr (rg.f c) rc): ∀(l:List Oper){α:Type}{m:Mp α}{D:Nat}{fr:α}{e' e:qa}{s:S},(∀o∈l,∀t,o.dst=some t→t<256)→Inv loc D m fr e' e→
  (BA P pr rg loc nrm all l α m D).f c fr e' s= .ok v2 s2→
  ∃e1 s1 e1',wW rc P all l e s= .ok .nrm e1 s1∧(∀t,Nat.testBit loc t=false→slot e1' t=slot e1 t)∧Am e e1∧(∀o∈l,∀t,o.dst=some t→slot e1 t≠ .und)∧nrm.f c e1' s1= .ok v2 s2
 |[],α,m,D,fr,e',e,s,hd,hi,hf=>by
  refine⟨e,s,e',rfl,hi.ag,fun t h=>h,fun o ho=>(by simp at ho),?_⟩
  obtain⟨f⟩:=nrm
  exact hf
 |o::l,α,m,D,fr,e',e,s,hd,hi,hf=>by
  have hf:(DH P pr rg loc D m (fun β _ m D=>BA P pr rg loc nrm all l β m D) all o).f c fr e' s= .ok v2 s2:=hf
  obtain⟨e1,s1,h1,β,p,mb,Db,fb,eb,_,h2,h3⟩:=Li hr (hd o q24) hi hf
  obtain⟨e2,s3,e2',g1,g2,g3,g4,g5⟩:=Hs hr l (fun o ho=>hd o (q23 _ ho)) h2 h3
  obtain⟨k1,k2⟩:=h1.keeps (hd o q24)
  refine⟨e2,s3,e2',by rw[TX h1];exact g1,g2,fun t h=>g3 t (k1 t h),fun o' ho t ht=>?_,g5⟩
  rcases q22.1 ho with rfl|ho
  ·exact g3 t (k2 t ht)
  ·exact g4 o' ho t ht
theorem FK(hag: ∀t,Nat.testBit loc t=false→slot e' t=slot e t)(hdf: ∀t,Nat.testBit D t=true→slot e t≠ .und):Inv loc D ([]:Mp Unit) () e' e:=⟨hag,fun t x h=>(by cases h),hdf⟩
end
end
noncomputable section
theorem Dd{a b:Key}(h:keyB a b=true):a=b:=by
 unfold keyB at h
 simp only[jz]at h
 obtain⟨h1,h2,h3,h4⟩:=h
 have e1:=D16.n_inj (q2m h1)
 have e2:=D16.n_inj (q2m h2)
 have e3:=D16.n_inj (q2m h3)
 have e4:=D16.n_inj (q2m h4)
 cases a;cases b;simp_all
theorem L6{a b:Bool}(h:P9 a b=true):a=b:=by cases a<;>cases b<;>first|rfl|cases h
theorem O3{a b:IntKind}(h:keqF a b=true):a=b:=EM (by rw[←O2];exact h)
theorem KY{a b:V}(h:Hi a b=true):a=b:=by
 unfold Hi at h
 split at h
 ·simp only[jz]at h;rw[O3 h.1,q2m h.2]
 ·simp only[jz]at h;rw[O3 h.1,q2m h.2]
 ·rw[L6 h]
 ·simp only[jz]at h;rw[L6 h.1,q2m h.2.1,q2m h.2.2]
 ·rw[q2m h]
 ·simp only[jz]at h;rw[Dd h.1,q2m h.2]
 ·simp only[jz]at h;rw[Dd h.1,q2m h.2.1,q2m h.2.2.1,q2m h.2.2.2]
 ·simp only[jz]at h;rw[Dd h.1,q2m h.2.1,q2m h.2.2.1,q2m h.2.2.2.1,q2m h.2.2.2.2]
 ·simp only[jz]at h;rw[Dd h.1,q2m h.2.1,q2m h.2.2.1,q2m h.2.2.2]
 ·rw[Dd h]
 ·simp only[jz]at h;rw[q2m h.1,q2m h.2]
 ·rfl
 ·rfl
 ·simp only[jz]at h;rw[q2m h.1,q2m h.2]
 ·cases h
theorem KZ: ∀{a b:List V},Kn a b=true→a=b
 |[],[],_=>rfl
 |a::l,b::r,h=>by
  have h:jj (Hi a b) (Kn l r)=true:=h
  rw[jz]at h
  rw[KY h.1,KZ h.2]
 |[],_::_,h=>by cases h
 |_::_,[],h=>by cases h
theorem UT{a b:V}(h:beqV a b=true):a=b:=by
 unfold beqV at h
 split at h
 ·simp only[jz]at h;rw[q2m h.1,KZ h.2]
 ·exact KY h
section
variable {v2:V} {s2:S} {γ:Type} {P:Program} {pr:vQ} {rg:RG γ} {loc:Nat} {c:γ} {rc:FuncId→List V→S→RO}
theorem JC{α β:Type}(f:Src α→Src β)(t:Nat): ∀m:Mp α,vh t (m.map fun p=>(p.1,f p.2))=(vh t m).map f
 |[]=>rfl
 |p::r=>by
  show(bif Nat.beq p.1 t then some (f p.2)else vh t (r.map fun p=>(p.1,f p.2)))=Option.map f (bif Nat.beq p.1 t then some p.2 else vh t r)
  cases Nat.beq p.1 t with
  |true=>rfl
  |false=>exact JC f t r
theorem NY{α β:Type}{D:Nat}{m:Mp α}{fr:α}{fr2:β}{e' e:qa}(f:Src α→Src β)(hf: ∀t x,SrcOk loc fr e' e t x→SrcOk loc fr2 e' e t (f x))(hi:Inv loc D m fr e' e):Inv loc D (m.map fun p=>(p.1,f p.2)) fr2 e' e:=by
 refine⟨hi.ag,fun t x hx=>?_,hi.df⟩
 rw[JC]at hx
 cases h:vh t m with
 |none=>rw[h]at hx;cases hx
 |some y=>
  rw[h]at hx;cases hx
  obtain⟨h1,h2⟩:=hi.mp t y h
  exact⟨h1,hf t y h2⟩
theorem R3{α:Type}{D:Nat}{m:Mp α}{fr:α}{e' e:qa}(v:V)(hi:Inv loc D m fr e' e):Inv loc D (upM m) (⟨v,fr⟩:Fm α) e' e:=NY Src.up (fun t x h=>h.up) hi
theorem Yy{α:Type}{D:Nat}{m:Mp α}{fr:α}{e' e:qa}(s:S)(hi:Inv loc D m fr e' e):Inv loc D (m.map fun p=>(p.1,p.2.us)) (⟨s,fr⟩:Fs α) e' e:=
 NY Src.us (fun t x h=>by cases x<;>exact h) hi
def HsOk{α:Type}(hs:List (Option (GS α)))(fr:α)(ss:Nat→S)(i:Nat):Prop:=hs.length=i∧ ∀u g,hs[u]?=some (some g)→g.f fr=ss u
def LdOk{α:Type}(P:Program)(all:List Oper)(M:List Nat)(ld:List (LD α))(fr:α)(es:Nat→qa)(ss:Nat→S)(i:Nat):Prop:=
 ∀d∈ld,d.i<i∧ ∃t x,(qE all d.i).op= .load t x∧qA P t=some (d.g,d.sz)∧(d.g=false→d.sz=1)∧
  ((d.sk=true∧jm all (es d.i) (qE all d.i).guard=some false)∨(d.sk=false∧d.p fr=qe (es d.i) x∧d.v fr≠ .und∧(jb P (rmK (ss d.i).m (zOf P ss all M d.i)) t (qe (es d.i) x)).res=d.v fr))
theorem Lu{α:Type}{j:Nat}: ∀{ld:List (LD α)}{d:LD α},Hz j ld=some d→d∈ld∧d.i=j
 |[],d,h=>by cases h
 |a::r,d,h=>by
  have h:(bif Nat.beq a.i j then some a else Hz j r)=some d:=h
  cases hb:Nat.beq a.i j with
  |true=>rw[hb]at h;cases h;exact⟨by simp,q2m hb⟩
  |false=>rw[hb]at h;obtain⟨h1,h2⟩:=Lu h;exact⟨by simp[h1],h2⟩
theorem EK{β:Type}{o:Option (Option β)}{x:β}(h:o.join=some x):o=some (some x):=by
 cases o with
 |none=>cases h
 |some o=>cases o with
  |none=>cases h
  |some y=>cases h;rfl
def Kj(P:Program)(g:Bool)(sz:Nat)(m:j0)(p v:V):Prop:=(g=false→sz=1)→ ∀t,qA P t=some (g,sz)→(jb P m t p).res=v
theorem Dy{g:Bool}{sz:Nat}{m:j0}{p v:V}{z:RO}(h:zk g sz m p (fun w=> @Bool.rec (fun _=>RO) (.no [101]) z (beqV w v))= .ok v2 s2):((g=false→sz=1)→Kj P g sz m p v)∧z= .ok v2 s2:=by
 have hz:z= .ok v2 s2:=by
  have key: ∀(hs:Bool),True:=fun _=>trivial
  unfold zk at h
  rcases E9 h with⟨k,o,e,h'⟩|⟨k,i,o,w,e,h'⟩
  ·obtain⟨v',hb,h'⟩:=LN h'
   exact part_z h'
  ·rcases LO h' with⟨es,n,q,hb,h'⟩|⟨es,n,q,hb,h'⟩<;>obtain⟨hc,h'⟩:=vp h'<;>exact part_z h'
 refine⟨fun hs _ t ht=>?_,hz⟩
 obtain⟨u,ks,h1,h2,h3⟩:=FN (P:=P) (part:=fun v' o=>wL g sz v' o fun w=> @Bool.rec (fun _=>RO) (.no [101]) z (beqV w v)) ht (fun v' o ks h=>Mo ks hs h) h
 obtain⟨h4,_⟩:=vp h2
 rw[h3,←UT h4];rfl
where
 part_z {g:Bool} {sz:Nat} {v v':V} {o:Nat} {z:RO} (h:wL g sz v' o (fun w=> @Bool.rec (fun _=>RO) (.no [101]) z (beqV w v))= .ok v2 s2):z= .ok v2 s2:=by
  cases g with
  |true=>
   obtain⟨u,_,h1,_⟩:=LT [] (show ldA v' sz o _ _= .ok v2 s2 from h)
   exact(vp h1).2
  |false=>
   obtain⟨u,_,h1,_⟩:=LS [] (show ld1 v' o _= .ok v2 s2 from h)
   exact(vp h1).2
theorem Fz{α:Type}{n:Nat}{hs:List (Option (GS α))}{ld:List (LD α)}{fr:α}{s:S}: ∀{L:List (Nat×Nat)}{b:BL α}{z:RO},chkL n hs ld L=some b→b.f fr s z= .ok v2 s2→z= .ok v2 s2∧ ∀q∈L,∃d g,Hz q.1 ld=some d∧hs[q.2]?=some (some g)∧
  (d.sk=true∨(((d.g=false→d.sz=1)→Kj P d.g d.sz (g.f fr).m (d.p fr) (d.v fr))∧((q.2+1=n∧((d.g=false→d.sz=1)→Kj P d.g d.sz s.m (d.p fr) (d.v fr)))∨ ∃g',hs[q.2+1]?=some (some g')∧((d.g=false→d.sz=1)→Kj P d.g d.sz (g'.f fr).m (d.p fr) (d.v fr)))))
 |[],b,z,h,hb=>by cases h;exact⟨hb,fun q hq=>by simp at hq⟩
 |p::r,b,z,h,hb=>by
  unfold chkL at h
  split at h
  ·rename_i i0 sk gg sz pp vv g b' h1 h2 h3
   have h2:=EK h2
   cases hsk:sk with
   |true=>
    rw[hsk,cond_true]at h;cases h
    obtain⟨k1,k2⟩:=Fz h3 hb
    refine⟨k1,fun q hq=>?_⟩
    rcases q22.1 hq with rfl|hq
    ·exact⟨_,⟨g⟩,h1,h2,.inl hsk⟩
    ·exact k2 q hq
   |false=>
    rw[hsk,cond_false]at h
    cases hn:Nat.beq (p.2+1) n with
    |true=>
     rw[hn,cond_true]at h;cases h
     obtain⟨a1,hb⟩:=Dy (P:=P) hb
     obtain⟨a2,hb⟩:=Dy (P:=P) hb
     obtain⟨k1,k2⟩:=Fz h3 hb
     refine⟨k1,fun q hq=>?_⟩
     rcases q22.1 hq with rfl|hq
     ·exact⟨_,⟨g⟩,h1,h2,.inr ⟨a1,.inl ⟨q2m hn,a2⟩⟩⟩
     ·exact k2 q hq
    |false=>
     rw[hn,cond_false]at h
     split at h
     ·rename_i g' h4
      have h4:=EK h4
      cases h
      obtain⟨a1,hb⟩:=Dy (P:=P) hb
      obtain⟨a2,hb⟩:=Dy (P:=P) hb
      obtain⟨k1,k2⟩:=Fz h3 hb
      refine⟨k1,fun q hq=>?_⟩
      rcases q22.1 hq with rfl|hq
      ·exact⟨_,⟨g⟩,h1,h2,.inr ⟨a1,.inr ⟨⟨g'⟩,h4,a2⟩⟩⟩
      ·exact k2 q hq
     ·cases h
  ·cases h
theorem GS.by_f{α β:Type}(g:GS α)(p:β→α)(fb:β):(g.by p).f fb=g.f (p fb):=by obtain⟨f⟩:=g;rfl
theorem Kv{α β:Type}{hs:List (Option (GS α))}{fr:α}{ss:Nat→S}{i:Nat}(h:HsOk hs fr ss i){p:β→α}{fb:β}(hp:p fb=fr):HsOk (hs.map fun h=>h.map fun h=>h.by p) fb ss i:=by
 refine⟨by rw[q1X];exact h.1,fun u g hg=>?_⟩
 rw[List.getElem?_map]at hg
 cases hu:hs[u]? with
 |none=>rw[hu]at hg;cases hg
 |some o=>
  rw[hu]at hg
  cases o with
  |none=>cases hg
  |some g0=>cases hg;rw[GS.by_f,hp];exact h.2 u g0 hu
theorem LD.by_f{α β:Type}(d:LD α)(p:β→α)(fb:β):(d.by p).i=d.i∧(d.by p).sk=d.sk∧(d.by p).g=d.g∧(d.by p).sz=d.sz∧(d.by p).p fb=d.p (p fb)∧(d.by p).v fb=d.v (p fb):=by obtain⟨a,b,c,e,f,g⟩:=d;exact⟨rfl,rfl,rfl,rfl,rfl,rfl⟩
theorem KA{α β:Type}{all:List Oper}{M:List Nat}{ld:List (LD α)}{fr:α}{es:Nat→qa}{ss:Nat→S}{i:Nat}(h:LdOk P all M ld fr es ss i){p:β→α}{fb:β}(hp:p fb=fr):LdOk P all M (ld.map fun h=>h.by p) fb es ss i:=by
 intro d hd
 obtain⟨d0,h0,rfl⟩:=List.mem_map.1 hd
 obtain⟨e1,e2,e3,e4,e5,e6⟩:=LD.by_f d0 p fb
 rw[e1,e2,e3,e4,e5,e6,hp]
 exact h d0 h0
theorem Jo{α:Type}{hs:List (Option (GS α))}{fr:α}{ss:Nat→S}{i:Nat}(h:HsOk hs fr ss i): ∀{us:List Nat}{z:ZL α},zGet hs us=some z→z.f fr=us.map fun u=>(ss u).nx
 |[],z,hz=>by cases hz;rfl
 |u::us,z,hz=>by
  unfold zGet at hz
  split at hz
  ·rename_i g l h1 h2
   cases hz
   show(g fr).nx::l fr=_
   have e1:g fr=ss u:=h.2 u ⟨g⟩ (EK h1)
   have e2:l fr=_:=Jo h h2
   rw[e1,e2];rfl
  ·cases hz
def ext{β:Type}(f:Nat→β)(i:Nat)(b:β):Nat→β:=fun j=>if j≤i then f j else b
theorem zf{β:Type}{f:Nat→β}{i j:Nat}{b:β}(h:j≤i):ext f i b j=f j:=by unfold ext;rw[if_pos h]
theorem QH{β:Type}{f:Nat→β}{i:Nat}{b:β}:ext f i b (i+1)=b:=by unfold ext;rw[if_neg (by omega)]
theorem ZI{all:List Oper}{M:List Nat}{i u:Nat}(h:u∈unz P all M i):u<i:=by
 unfold unz at h
 cases hb:Nat.ble (cls P (qE all i).op) 1 with
 |true=>rw[hb]at h;simp at h
 |false=>rw[hb]at h;exact List.mem_range.1 (q25.1 h).1
theorem Gf{all:List Oper}{M:List Nat}{ss ss':Nat→S}{i:Nat}(h: ∀j,j<i→ss' j=ss j):zOf P ss' all M i=zOf P ss all M i:=by
 unfold zOf
 exact List.map_congr_left fun u hu=>by rw[h u (ZI hu)]
theorem QY{α:Type}{hs:List (Option (GS α))}{fr:α}{ss:Nat→S}{i:Nat}{s1:S}{hs2:List (Option (GS α))}(h:HsOk hs fr ss i)(h2:hs2=hs++[none]∨ ∃g:GS α,hs2=hs++[some g]∧g.f fr=ss i):HsOk hs2 fr (ext ss i s1) (i+1):=by
 have key: ∀o:Option (GS α),(∀g,o=some g→g.f fr=ss i)→HsOk (hs++[o]) fr (ext ss i s1) (i+1):=by
  intro o ho
  refine⟨by rw[q1U,h.1];rfl,fun u g hg=>?_⟩
  rcases q2v u i with hu|hu
  ·rw[List.getElem?_append_left (by rw[h.1];exact hu)]at hg
   rw[zf (by omega)];exact h.2 u g hg
  ·rw[List.getElem?_append_right (by rw[h.1];exact hu),h.1]at hg
   by_cases e:u=i
   ·subst e
    simp at hg
    rw[zf (q2r _)];exact ho g hg
   ·have:u-i=(u-i-1)+1:=by omega
    rw[this]at hg;simp at hg
 rcases h2 with rfl|⟨g,rfl,hg⟩
 ·exact key none fun g hg=>by cases hg
 ·exact key (some g) fun g' hg'=>by cases hg';exact hg
theorem EO{α:Type}{all:List Oper}{M:List Nat}{ld:List (LD α)}{fr:α}{es:Nat→qa}{ss:Nat→S}{i:Nat}{e1:qa}{s1:S}(h:LdOk P all M ld fr es ss i):LdOk P all M ld fr (ext es i e1) (ext ss i s1) (i+1):=by
 intro d hd
 obtain⟨h1,t,x,h2,h3,h4,h5⟩:=h d hd
 refine⟨by omega,t,x,h2,h3,h4,?_⟩
 rw[zf (by omega),zf (by omega),Gf (fun j hj=>zf (by omega))]
 exact h5
def q0m(P:Program)(all:List Oper)(M:List Nat)(es:Nat→qa)(ss:Nat→S):Prop:=
 ∀j u,(j,u)∈ldP P all M→ ∀t x,(qE all j).op= .load t x→jm all (es j) (qE all j).guard=some true→ ∃w,w≠ .und∧
  (jb P (rmK (ss j).m (zOf P ss all M j)) t (qe (es j) x)).res=w∧(jb P (ss u).m t (qe (es j) x)).res=w∧(jb P (ss (u+1)).m t (qe (es j) x)).res=w
end
end
noncomputable section
theorem FU{α:Type}{a b:N16 α}(h: ∀d,a.get d=b.get d):a=b:=by
 have h0:=h .d0;have h1:=h .d1;have h2:=h .d2;have h3:=h .d3;have h4:=h .d4;have h5:=h .d5;have h6:=h .d6;have h7:=h .d7
 have h8:=h .d8;have h9:=h .d9;have h10:=h .d10;have h11:=h .d11;have h12:=h .d12;have h13:=h .d13;have h14:=h .d14;have h15:=h .d15
 cases a;cases b
 simp only[N16.get]at*
 simp_all
theorem YI{α:Type}{a b:M4 α}(h: ∀k,mget a k=mget b k):a=b:=
 FU fun w=>FU fun x=>FU fun y=>FU fun z=>h ⟨w,x,y,z⟩
theorem q1c(m:j0)(z:List Key):reK m (rmK m z) z=m:=by
 refine YI fun k=>?_
 rw[AH,wJ]
 by_cases h:k∈z
 ·cases hk:mget m k with
  |none=>simp[h]
  |some b=>simp[h]
 ·simp[h]
section
variable {v2:V} {s2:S} {γ:Type} {P:Program} {pr:vQ} {rg:RG γ} {loc:Nat} {c:γ} {rc:FuncId→List V→S→RO}
theorem LX{g:Bool}{sz:Nat}{m:j0}{p:V}{K:V→RO}{t:TypeId}(ht:qA P t=some (g,sz))(hs:g=false→sz=1)(h:zk g sz m p K= .ok v2 s2): ∃u ks,u≠ .und∧K u= .ok v2 s2∧jb P m t p= .val u ks:=by
 obtain⟨u,ks,h1,h2,h3⟩:=FN (P:=P) (part:=fun v' o=>wL g sz v' o K) ht (fun v' o ks h=>Mo ks hs h) h
 exact⟨u,ks,h1,h2,h3⟩
theorem GD{α:Type}{hs:List (Option (GS α))}{fr:α}{ss ss':Nat→S}{n:Nat}(h:HsOk hs fr ss n)(he: ∀j,j<n→ss' j=ss j):HsOk hs fr ss' n:=by
 refine⟨h.1,fun u g hg=>?_⟩
 have hu:u<n:=by
  rw[←h.1]
  exact(List.getElem?_eq_some_iff.1 hg).1
 rw[he u hu];exact h.2 u g hg
theorem O6{α:Type}{all:List Oper}{M:List Nat}{ld:List (LD α)}{fr:α}{es:Nat→qa}{ss:Nat→S}{i:Nat}{d:LD α}(h:LdOk P all M ld fr es ss (i+1))(hd:d.i<i+1∧ ∃t x,(qE all d.i).op= .load t x∧qA P t=some (d.g,d.sz)∧(d.g=false→d.sz=1)∧
  ((d.sk=true∧jm all (es d.i) (qE all d.i).guard=some false)∨(d.sk=false∧d.p fr=qe (es d.i) x∧d.v fr≠ .und∧(jb P (rmK (ss d.i).m (zOf P ss all M d.i)) t (qe (es d.i) x)).res=d.v fr))):
  LdOk P all M (d::ld) fr es ss (i+1):=by
 intro d' hd'
 rcases q22.1 hd' with rfl|hd'
 ·exact hd
 ·exact h d' hd'
theorem S9{all:List Oper}{o:Oper}{e:qa}{s:S}{e1:qa}{s1:S}(h:StepR rc P all o e s e1 s1):CI rc P all [] o e s e1 s1:=by
 rcases h with h|⟨h1,v,_,h2,h3⟩
 ·exact .inl h
 ·exact .inr ⟨h1,v,s1,h2,h3,rfl⟩
def Hb(rc:FuncId→List V→S→RO)(P:Program)(all:List Oper)(M:List Nat)(loc:Nat)(i:Nat)(rest:Dv γ)(c:γ)(es:Nat→qa)(ss:Nat→S)(v2:V)(s2:S):Prop:=
 ∃e1 s1,∃(β:Type)(mβ:Mp β)(Dβ:Nat)(hsβ:List (Option (GS β)))(ldβ:List (LD β))(fb:β)(eb:qa),
  CI rc P all (zOf P ss all M i) (qE all i) (es i) (ss i) e1 s1∧Am (es i) e1∧(∀t,(qE all i).dst=some t→slot e1 t≠ .und)∧Inv loc Dβ mβ fb eb e1∧HsOk hsβ fb ss (i+1)∧
  LdOk P all M ldβ fb (ext es i e1) (ext ss i s1) (i+1)∧(rest β mβ Dβ hsβ ldβ).f c fb eb s1= .ok v2 s2
theorem Gh {all : List Oper} {M : List Nat} {i : Nat} {rest : Dv γ} {α : Type} {m1 : Mp α} {D : Nat} {hs1 : List (Option (GS α))} {ld1 : List (LD α)} {fr : α} {e' : qa} {es : Nat → qa} {ss : Nat → S}
  (hr : RcLe pr (rg.f c) rc) (hd : ∀ t, (qE all i).dst = some t → t < 256) (hi : Inv loc D m1 fr e' (es i)) (hh : HsOk hs1 fr ss (i + 1)) (hl : LdOk P all M ld1 fr es ss i)
  (h : (AB P pr rg loc all M i (qE all i) rest m1 D hs1 ld1).f c fr e' (ss i) = .ok v2 s2) : Hb rc P all M loc i rest c es ss v2 s2 := by
 have plain : unz P all M i = [] → (DH P pr rg loc D m1 (fun β pr mβ Dβ => rest β mβ Dβ (hs1.map fun h => h.map fun h => h.by pr) (ld1.map fun h => h.by pr)) all (qE all i)).f c fr e' (ss i) = .ok v2 s2 → Hb rc P all M loc i rest c es ss v2 s2 := by
  intro hz h
  obtain ⟨e1, s1, h1, β, p, mb, Db, fb, eb, hp, h2, h3⟩ := Li hr hd hi h
  obtain ⟨k1, k2⟩ := h1.keeps hd
  refine ⟨e1, s1, β, mb, Db, _, _, fb, eb, ?_, k1, k2, h2, Kv hh hp, ?_, h3⟩
  ·have : zOf P ss all M i = [] := by unfold zOf; rw [hz]; rfl
   rw [this]; exact S9 h1
  ·exact KA (EO hl) hp
 have skip : ∀ {ld2 : List (LD α)} {e1' : qa}, jm all (es i) (qE all i).guard = some false → Inv loc (skD D (qE all i).dst) (skM m1 (qE all i).dst) fr e1' (jo (es i) (qE all i).dst (.tu [])) →
   LdOk P all M ld2 fr (ext es i (jo (es i) (qE all i).dst (.tu []))) (ext ss i (ss i)) (i + 1) → (rest α (skM m1 (qE all i).dst) (skD D (qE all i).dst) hs1 ld2).f c fr e1' (ss i) = .ok v2 s2 → Hb rc P all M loc i rest c es ss v2 s2 := by
  intro ld2 e1' hg hi2 hl2 h
  have st : StepR rc P all (qE all i) (es i) (ss i) (jo (es i) (qE all i).dst (.tu [])) (ss i) := .inl ⟨hg, rfl, rfl⟩
  obtain ⟨k1, k2⟩ := st.keeps hd
  exact ⟨_, ss i, α, _, _, hs1, ld2, fr, e1', .inl ⟨hg, rfl, rfl⟩, k1, k2, hi2, hh, hl2, h⟩
 unfold AB at h
 split at h
 ·rename_i t x hop
  have special : (match gv loc D m1 x, qA P t, zGet hs1 (unz P all M i) with
    | some ⟨g⟩, some (gg, sz), some ⟨zg⟩ => bif gg || Nat.beq sz 1 then gdC loc D m1 all (qE all i)
     (match finV (γ := γ) (α := Fm (Fm α)) loc D (upM (upM m1)) (fun β (pr : β → Fm (Fm α)) mβ Dβ => rest β mβ Dβ (hs1.map fun (h : Option (GS α)) => h.map fun (h : GS α) => h.by fun (x : β) => (pr x).r.r) (⟨i, false, gg, sz, fun fr => (pr fr).r.v, fun fr => (pr fr).v⟩ :: ld1.map fun (h : LD α) => h.by fun (x : β) => (pr x).r.r)) (qE all i).dst ⟨fun fr _ _ K => K fr.v⟩ with
      | ⟨k⟩ => ⟨fun c fr e s => qF (g fr e) fun p => zk gg sz (rmK s.m (zg fr)) p fun v => k c ⟨v, ⟨p, fr⟩⟩ e s⟩)
     (rest α (skM m1 (qE all i).dst) (skD D (qE all i).dst) hs1 (⟨i, true, gg, sz, fun _ => .und, fun _ => .und⟩ :: ld1)) else badC
    | _, _, _ => badC).f c fr e' (ss i) = .ok v2 s2 → Hb rc P all M loc i rest c es ss v2 s2 := by
   intro h
   split at h
   ·rename_i g gg sz zg hg hsh hzg
    cases hb : (gg || Nat.beq sz 1) with
    | false => rw [hb, cond_false] at h; cases h
    | true =>
     rw [hb, cond_true] at h
     have hsz : gg = false → sz = 1 := fun h => by rw [h, Bool.false_or] at hb; exact q2m hb
     rcases LA hd hi h with ⟨hgd, h2⟩ | ⟨hgd, e1', h2, h3⟩
     ·generalize hk : finV (γ := γ) (α := Fm (Fm α)) loc D (upM (upM m1)) (fun β (pr : β → Fm (Fm α)) mβ Dβ => rest β mβ Dβ (hs1.map fun (h : Option (GS α)) => h.map fun (h : GS α) => h.by fun (x : β) => (pr x).r.r) (⟨i, false, gg, sz, fun fr => (pr fr).r.v, fun fr => (pr fr).v⟩ :: ld1.map fun (h : LD α) => h.by fun (x : β) => (pr x).r.r)) (qE all i).dst ⟨fun fr _ _ K => K fr.v⟩ = q at h2
      obtain ⟨k⟩ := q
      obtain ⟨hp, h2⟩ := AY (show qF (g fr e') _ = .ok v2 s2 from h2)
      have hge : g fr e' = qe (es i) x := qW hg hi
      have hze : zg fr = zOf P ss all M i := Jo hh hzg
      rw [hge] at h2 hp
      rw [hze] at h2
      obtain ⟨u, ks, hu, h3, h4⟩ := LX hsh hsz h2
      have h3 : (finV (γ := γ) (α := Fm (Fm α)) loc D (upM (upM m1)) (fun β (pr : β → Fm (Fm α)) mβ Dβ => rest β mβ Dβ (hs1.map fun (h : Option (GS α)) => h.map fun (h : GS α) => h.by fun (x : β) => (pr x).r.r) (⟨i, false, gg, sz, fun fr => (pr fr).r.v, fun fr => (pr fr).v⟩ :: ld1.map fun (h : LD α) => h.by fun (x : β) => (pr x).r.r)) (qE all i).dst ⟨fun fr _ _ K => K fr.v⟩).f c ⟨u, ⟨qe (es i) x, fr⟩⟩ e' (ss i) = .ok v2 s2 := by rw [hk]; exact h3
      obtain ⟨K, h5, h6⟩ := NQ hd (R3 u (R3 (qe (es i) x) hi)) h3
      obtain ⟨β, p, mb, Db, fb, eb, hpf, h7, h8⟩ := h6 u hu h5
      have st : CI rc P all (zOf P ss all M i) (qE all i) (es i) (ss i) (jo (es i) (qE all i).dst u) (ss i) := by
       refine .inr ⟨hgd, u, ⟨rmK (ss i).m (zOf P ss all M i), (ss i).nx, (ss i).dn, (ss i).sc⟩, ?_, rfl, ?_⟩
       ·rw [hop]
        show ap _ (jb P _ t _) = _
        rw [h4]; rfl
       ·rw [q1c]
      refine ⟨_, ss i, β, mb, Db, _, _, fb, eb, st, EL hd hu, fun t' ht' => ?_, h7, ?_, ?_, h8⟩
      ·rw [ht', jg (hd t' ht'), if_pos rfl]; exact hu
      ·exact Kv (p := fun x => (p x).r.r) hh (by show (p fb).r.r = fr; rw [hpf])
      ·refine O6 (KA (p := fun x => (p x).r.r) (EO hl) (by show (p fb).r.r = fr; rw [hpf])) ⟨by show i < i + 1; omega, t, x, hop, hsh, hsz, .inr ⟨rfl, ?_, ?_, ?_⟩⟩
       ·show (p fb).r.v = qe (ext es i _ i) x
        rw [hpf, zf (q2r _)]
       ·show (p fb).v ≠ .und
        rw [hpf]; exact hu
       ·show (jb P (rmK (ext ss i _ i).m (zOf P (ext ss i _) all M i)) t (qe (ext es i _ i) x)).res = (p fb).v
        rw [zf (q2r _), zf (q2r _), Gf (fun j hj => zf (by omega)), h4, hpf]; rfl
     ·refine skip hgd h2 (O6 (EO hl) ⟨by show i < i + 1; omega, t, x, hop, hsh, hsz, .inl ⟨rfl, ?_⟩⟩) h3
      show jm all (ext es i _ i) _ = _
      rw [zf (q2r _)]; exact hgd
   ·cases h
  cases hz : unz P all M i with
  | nil =>
   cases hany : (ldP P all M).any (fun q => Nat.beq q.1 i) with
   | false => rw [hz, hany] at h; exact plain hz h
   | true => rw [hz, hany] at h; rw [hz] at special; exact special h
  | cons u us => rw [hz] at h special; exact special h
 ·cases hz : unz P all M i with
  | nil => rw [hz] at h; exact plain hz h
  | cons u us =>
   rw [hz] at h
   simp only at h
   rw [← hz] at h
   split at h
   ·rename_i hop zg hcomp hzg
    rcases LA hd hi h with ⟨hgd, h2⟩ | ⟨hgd, e1', h2, h3⟩
    ·obtain ⟨K, h3, h4⟩ := NP hd hi h2
     have hze : zg fr = zOf P ss all M i := Jo hh hzg
     have h3 : hop c fr e' ⟨rmK (ss i).m (zg fr), (ss i).nx, (ss i).dn, (ss i).sc⟩ (fun v s2 => K v (UE (ss i) (zg fr) s2)) = .ok v2 s2 := h3
     obtain ⟨v, s1, hv, h5, h6⟩ := Lk hr hcomp hi h3
     obtain ⟨β, p, mb, Db, fb, eb, hpf, h7, h8⟩ := h4 v _ hv h6
     rw [hze] at h5 h8
     refine ⟨_, _, β, mb, Db, _, _, fb, eb, .inr ⟨hgd, v, s1, h5, rfl, rfl⟩, EL hd hv, fun t' ht' => ?_, h7, Kv hh hpf, KA (EO hl) hpf, h8⟩
     rw [ht', jg (hd t' ht'), if_pos rfl]; exact hv
    ·exact skip hgd h2 (EO hl) h3
   ·cases h
theorem Pd{all:List Oper}{M:List Nat}{i:Nat}{rest:Dv γ}{α:Type}{m:Mp α}{D:Nat}{hs:List (Option (GS α))}{ld:List (LD α)}{fr:α}{e':qa}{es:Nat→qa}{ss:Nat→S}
  (hr:RcLe pr (rg.f c) rc)(hd: ∀t,(qE all i).dst=some t→t<256)(hi:Inv loc D m fr e' (es i))(hh:HsOk hs fr ss i)(hl:LdOk P all M ld fr es ss i)
  (h:(FC P pr rg loc all M i (qE all i) rest m D hs ld).f c fr e' (ss i)= .ok v2 s2):Hb rc P all M loc i rest c es ss v2 s2:=by
 unfold FC at h
 have cg: ∀{s1:S}{j:Nat},j<i+1→ss j=ext ss i s1 j:=fun hj=>(zf (by omega)).symm
 cases hn:Uq P all M i with
 |true=>
  rw[hn,cond_true]at h
  generalize hk:AB P pr rg loc all M i (qE all i) rest (m.map fun p=>(p.1,p.2.us)) D ((hs.map fun h=>h.map fun h=>h.by fun f=>f.r)++[some ⟨fun fr=>fr.s⟩]) (ld.map fun h=>h.by fun f=>f.r)=q at h
  obtain⟨f⟩:=q
  have h:(AB P pr rg loc all M i (qE all i) rest (m.map fun p=>(p.1,p.2.us)) D ((hs.map fun h=>h.map fun h=>h.by fun f=>f.r)++[some ⟨fun fr=>fr.s⟩]) (ld.map fun h=>h.by fun f=>f.r)).f c (⟨ss i,fr⟩:Fs α) e' (ss i)= .ok v2 s2:=by rw[hk];exact h
  refine Gh hr hd (Yy (ss i) hi) ?_ (KA hl rfl) h
  exact GD (QY (s1:=ss i) (Kv hh (p:=fun f:Fs α=>f.r) (fb:=⟨ss i,fr⟩) rfl) (.inr ⟨⟨fun fr=>fr.s⟩,rfl,rfl⟩)) fun j hj=>cg hj
 |false=>
  rw[hn,cond_false]at h
  exact Gh hr hd hi (GD (QY (s1:=ss i) hh (.inl rfl)) fun j hj=>cg hj) hl h
end
end
noncomputable section
section
variable {v2:V} {s2:S} {γ:Type} {P:Program} {pr:vQ} {rg:RG γ} {loc:Nat} {c:γ} {rc:FuncId→List V→S→RO}
theorem Rt{all:List Oper}{i:Nat}{o:Oper}{r:List Oper}(h:o::r=all.drop i):qE all i=o∧r=all.drop (i+1)∧i<all.length:=by
 have h1:all[i]?=some o:=by
  have:(all.drop i)[0]?=some o:=by rw[←h];rfl
  rw[q1P]at this;simpa using this
 refine⟨by unfold qE;rw[q1M,h1];rfl,?_,(List.getElem?_eq_some_iff.1 h1).1⟩
 have:(all.drop i).drop 1=all.drop (i+1):=by rw[q1H]
 rw[←this,←h];rfl
theorem JA{nrm:CK γ}{all:List Oper}{M:List Nat}(hr:RcLe pr (rg.f c) rc)(hd: ∀o∈all,∀t,o.dst=some t→t<256):
  ∀(l:List Oper)(i:Nat),l=all.drop i→i≤all.length→ ∀{α:Type}{m:Mp α}{D:Nat}{hs:List (Option (GS α))}{ld:List (LD α)}{fr:α}{e':qa}(es:Nat→qa)(ss:Nat→S),
  Inv loc D m fr e' (es i)→HsOk hs fr ss i→LdOk P all M ld fr es ss i→(D3 P pr rg loc nrm all M l i α m D hs ld).f c fr e' (ss i)= .ok v2 s2→
  ∃es' ss' e1',(∀j,j≤i→es' j=es j∧ss' j=ss j)∧(∀t,Nat.testBit loc t=false→slot e1' t=slot (es' all.length) t)∧Am (es i) (es' all.length)∧(∀o∈l,∀t,o.dst=some t→slot (es' all.length) t≠ .und)∧
   (∀j,i≤j→j<all.length→CI rc P all (zOf P ss' all M j) (qE all j) (es' j) (ss' j) (es' (j+1)) (ss' (j+1)))∧q0m P all M es' ss'∧nrm.f c e1' (ss' all.length)= .ok v2 s2
 |[],i,hl,hile,α,m,D,hs,ld,fr,e',es,ss,hi,hh,hld,h=>by
  have hin:i=all.length:=by
   have:=congrArg List.length hl
   simp at this;omega
  subst hin
  have h:(match chkL all.length hs ld (ldP P all M),nrm with|some ⟨b⟩,⟨f⟩=>(⟨fun c fr e s=>b fr s (f c e s)⟩:CF γ α)|none,_=>badC).f c fr e' (ss all.length)= .ok v2 s2:=h
  split at h
  ·rename_i b _ hb f
   obtain⟨h1,h2⟩:=Fz (P:=P) hb (show b fr (ss all.length) _= .ok v2 s2 from h)
   refine⟨es,ss,e',fun j _=>⟨rfl,rfl⟩,hi.ag,fun t h=>h,fun o ho=>(by simp at ho),fun j h1 h2=>by omega,fun j u hju t x hop hg=>?_,h1⟩
   obtain⟨d,g,h3,h4,h5⟩:=h2 (j,u) hju
   obtain⟨hmem,rfl⟩:=Lu h3
   obtain⟨_,t',x',q1,q2,q3,q4⟩:=hld d hmem
   rw[hop]at q1
   injection q1 with e1 e2
   subst e1;subst e2
   rcases q4 with⟨k1,k2⟩|⟨k1,k2,k3,k4⟩
   ·rw[k2]at hg;cases hg
   ·rcases h5 with h5|⟨h5,h6⟩
    ·rw[k1]at h5;cases h5
    ·refine⟨d.v fr,k3,k4,?_,?_⟩
     ·have:=h5 q3 q3 t q2
      rwa [hh.2 u g h4,k2]at this
     ·rcases h6 with⟨e3,h6⟩|⟨g',h6,h7⟩
      ·have:=h6 q3 q3 t q2
       simp only at e3
       rwa [←e3,k2]at this
      ·have:=h7 q3 q3 t q2
       rwa [hh.2 _ g' h6,k2]at this
  ·cases h
 |o::r,i,hl,hile,α,m,D,hs,ld,fr,e',es,ss,hi,hh,hld,h=>by
  obtain⟨ho,hr2,hlt⟩:=Rt hl
  have hmem:qE all i∈all:=by
   have:o∈all:=List.mem_of_mem_drop (i:=i) (by rw[←hl];simp)
   rw[ho];exact this
  have h:(FC P pr rg loc all M i o (D3 P pr rg loc nrm all M r (i+1)) m D hs ld).f c fr e' (ss i)= .ok v2 s2:=h
  rw[←ho]at h
  obtain⟨e1,s1,β,mb,Db,hsb,ldb,fb,eb,h1,h2,h3,h4,h5,h6,h7⟩:=Pd hr (hd _ hmem) hi hh hld h
  have x1:ext es i e1 (i+1)=e1:=QH
  have x2:ext ss i s1 (i+1)=s1:=QH
  obtain⟨es',ss',e1',g1,g2,g3,g4,g5,g6,g7⟩:=JA (nrm:=nrm) hr hd r (i+1) hr2 hlt (es:=ext es i e1) (ss:=ext ss i s1) (by rw[x1];exact h4) (GD h5 fun j hj=>zf (by omega)) h6 (by rw[x2];exact h7)
  rw[x1]at g3
  have y1: ∀j,j≤i→es' j=es j∧ss' j=ss j:=fun j hj=>⟨(g1 j (by omega)).1.trans (zf hj),(g1 j (by omega)).2.trans (zf hj)⟩
  refine⟨es',ss',e1',y1,g2,fun t ht=>g3 t (h2 t ht),fun o' ho' t ht=>?_,fun j hj1 hj2=>?_,g6,g7⟩
  ·rcases q22.1 ho' with rfl|ho'
   ·exact g3 t (h3 t (by rw[ho];exact ht))
   ·exact g4 o' ho' t ht
  ·by_cases hj:j=i
   ·subst hj
    rw[(y1 j (q2r _)).1,(y1 j (q2r _)).2,(g1 (j+1) (q2r _)).1,(g1 (j+1) (q2r _)).2,x1,x2,Gf (fun k hk=>(y1 k (by omega)).2)]
    exact h1
   ·exact g5 j (by omega) hj2
theorem S8{all:List Oper}{z:List Key}{o:Oper}{e:qa}{s:S}{e1 e2:qa}{s1 s2:S}(h1:CI rc P all z o e s e1 s1)(h2:CI rc P all z o e s e2 s2):e1=e2∧s1=s2:=by
 rcases h1 with⟨g1,rfl,rfl⟩|⟨g1,v,t,r1,rfl,rfl⟩<;>rcases h2 with⟨g2,rfl,rfl⟩|⟨g2,v2,t2,r2,rfl,rfl⟩
 ·exact⟨rfl,rfl⟩
 ·rw[g1]at g2;cases g2
 ·rw[g1]at g2;cases g2
 ·rw[r1]at r2;cases r2;exact⟨rfl,rfl⟩
theorem Nl{all:List Oper}{e e1 e2:qa}{s s1 s2:S}{es es2:Nat→qa}{ss ss2:Nat→S}(h1:DrawOk rc P all e s e1 s1 es ss)(h2:DrawOk rc P all e s e2 s2 es2 ss2):e1=e2∧s1=s2:=by
 have key: ∀i,i≤all.length→ ∀j,j≤i→es j=es2 j∧ss j=ss2 j:=by
  intro i
  induction i with
  |zero=>
   intro _ j hj
   have:j=0:=by omega
   subst this
   exact⟨h1.e0.trans h2.e0.symm,h1.s0.trans h2.s0.symm⟩
  |succ i ih=>
   intro hi j hj
   have ih:=ih (by omega)
   by_cases h:j=i+1
   ·subst h
    have a:=h1.step i (by omega)
    have b:=h2.step i (by omega)
    rw[(ih i (q2r _)).1,(ih i (q2r _)).2,Gf (ss:=ss2) (fun k hk=>(ih k (by omega)).2)]at a
    exact S8 a b
   ·exact ih j (by omega)
 have:=key all.length (q2r _) all.length (q2r _)
 exact⟨h1.en.symm.trans (this.1.trans h2.en),h1.sn.symm.trans (this.2.trans h2.sn)⟩
theorem SQ{nrm:CK γ}{ops:List Oper}{D:Nat}{e' e:qa}{s:S}(hr:RcLe pr (rg.f c) rc)(hd: ∀o∈ops,∀t,o.dst=some t→t<256)(hst:Ef P ops (masks 0 ops [])=true)
  (hag: ∀t,Nat.testBit loc t=false→slot e' t=slot e t)(hdf: ∀t,Nat.testBit D t=true→slot e t≠ .und)(h:(Pc P pr rg loc nrm D ops).f c e' s= .ok v2 s2):
  ∃e1 s1 e1',runD rc P ops e s= .ok .nrm e1 s1∧(∀t,Nat.testBit loc t=false→slot e1' t=slot e1 t)∧Am e e1∧(∀o∈ops,∀t,o.dst=some t→slot e1 t≠ .und)∧nrm.f c e1' s1= .ok v2 s2:=by
 have h:(match D3 P pr rg loc nrm ops (masks 0 ops []) ops 0 Unit [] D [] []with|⟨f⟩=>(⟨fun c e s=>tramp (f c () e s)⟩:CK γ)).f c e' s= .ok v2 s2:=h
 generalize hk:D3 P pr rg loc nrm ops (masks 0 ops []) ops 0 Unit [] D [] []=q at h
 obtain⟨f⟩:=q
 have h:(D3 P pr rg loc nrm ops (masks 0 ops []) ops 0 Unit [] D [] []).f c () e' s= .ok v2 s2:=by rw[hk];exact h
 obtain⟨es,ss,e1',g1,g2,g3,g4,g5,g6,g7⟩:=JA hr hd ops 0 rfl (q2O _) (fun _=>e) (fun _=>s) (FK hag hdf) ⟨rfl,fun u g h=>by simp at h⟩ (fun d hd=>by simp at hd) h
 have hD:DrawOk rc P ops e s (es ops.length) (ss ops.length) es ss:=⟨(g1 0 (q2r _)).1,(g1 0 (q2r _)).2,rfl,rfl,hst,fun i hi=>g5 i (q2O _) hi,g6⟩
 have hex: ∃p:qa×S,∃es ss,DrawOk rc P ops e s p.1 p.2 es ss:=⟨(es ops.length,ss ops.length),es,ss,hD⟩
 refine⟨es ops.length,ss ops.length,e1',?_,g2,g3,g4,g7⟩
 obtain⟨es0,ss0,hch⟩:=Classical.choose_spec hex
 have hu:=Nl hch hD
 unfold runD
 rw[dif_pos hex,hu.1,hu.2]
theorem ST{nrm:CK γ}{ops:List Oper}{D:Nat}{e' e:qa}{s:S}(hr:RcLe pr (rg.f c) rc)(hd: ∀o∈ops,∀t,o.dst=some t→t<256)
  (hag: ∀t,Nat.testBit loc t=false→slot e' t=slot e t)(hdf: ∀t,Nat.testBit D t=true→slot e t≠ .und)(h:(Pe P pr rg loc nrm D ops).f c e' s= .ok v2 s2):
  ∃e1 s1 e1',wW rc P ops ops e s= .ok .nrm e1 s1∧(∀t,Nat.testBit loc t=false→slot e1' t=slot e1 t)∧Am e e1∧(∀o∈ops,∀t,o.dst=some t→slot e1 t≠ .und)∧nrm.f c e1' s1= .ok v2 s2:=by
 have h:(match BA P pr rg loc nrm ops ops Unit [] D with|⟨f⟩=>(⟨fun c e s=>tramp (f c () e s)⟩:CK γ)).f c e' s= .ok v2 s2:=h
 generalize hk:BA P pr rg loc nrm ops ops Unit [] D=q at h
 obtain⟨f⟩:=q
 have h:(BA P pr rg loc nrm ops ops Unit [] D).f c () e' s= .ok v2 s2:=by rw[hk];exact h
 exact Hs hr ops hd (FK hag hdf) h
end
end
noncomputable section
def zq(P:Program):Code→Bool
 | .region _ ops dr=>!dr||Ef P ops.toList (masks 0 ops.toList [])
 | .seq a b=>zq P a&&zq P b
 | .cond _ a b=>zq P a&&zq P b
 | .block _ a=>zq P a
 | .loop a=>zq P a
 |_=>true
theorem SY{n:Nat}{o:Oper}(h:ze n o=true): ∀t,o.dst=some t→t<256:=fun t ht=>by
 unfold ze at h
 rw[ht]at h
 simp only[q1A]at h
 simpa using h.2
theorem Lz{t:Nat}: ∀{l:List Oper}{D:Nat},Nat.testBit (l.foldl (fun D o=>skD D o.dst) D) t=true→Nat.testBit D t=true∨ ∃o∈l,o.dst=some t
 |[],D,h=> .inl h
 |o::l,D,h=>by
  rcases Lz (l:=l) h with h|⟨o',h1,h2⟩
  ·have h:Nat.testBit (skD D o.dst) t=true:=h
   cases ho:o.dst with
   |none=>rw[ho]at h;exact .inl h
   |some d=>
    rw[ho]at h
    have h:Nat.testBit (D|||2^d) t=true:=h
    rw[Nat.testBit_or,Nat.testBit_two_pow,Bool.or_eq_true]at h
    rcases h with h|h
    ·exact .inl h
    ·exact .inr ⟨o,by simp,by rw[ho,of_decide_eq_true h]⟩
  ·exact .inr ⟨o',by simp[h1],h2⟩
def nxt{γ:Type}(nrm:CK γ)(ex:Exs γ)(ret:CK γ):X→CK γ
 | .nrm=>nrm
 | .ext i=>Bo i ex
 | .ret=>ret
theorem Hy{γ:Type}(i:Nat): ∀ex:Exs γ,Bo i (ex.map fun p=>(p.1,p.2.lift))=(Bo i ex).lift
 |[]=>rfl
 |p::r=>by
  show(bif Nat.beq p.1 i then p.2.lift else Bo i (r.map fun p=>(p.1,p.2.lift)))=CK.lift (bif Nat.beq p.1 i then p.2 else Bo i r)
  cases Nat.beq p.1 i with
  |true=>rfl
  |false=>exact Hy i r
theorem R8{γ:Type}(x:CK γ)(ih:qa→S→RO)(c:γ)(e:qa)(s:S):x.lift.f ⟨ih,c⟩ e s=x.f c e s:=by obtain⟨f⟩:=x;rfl
theorem VJ{γ:Type}(x:RG γ)(ih:qa→S→RO)(c:γ):x.lift.f ⟨ih,c⟩=x.f c:=by obtain⟨f⟩:=x;rfl
section
variable {v2:V} {s2:S} {P:Program} {pr:vQ} {loc:Nat} {rc:FuncId→List V→S→RO}
def FdOk(P:Program)(pr:vQ)(loc:Nat)(rc:FuncId→List V→S→RO)(v2:V)(s2:S)(cd:Code):Prop:=
 ∀(γ:Type)(rg:RG γ)(D:Nat)(nrm:CK γ)(ex:Exs γ)(ret:CK γ)(c:γ)(n:Nat)(e' e:qa)(s:S),RcLe pr (rg.f c) rc→jG n cd=true→zq P cd=true→
  (∀t,Nat.testBit loc t=false→slot e' t=slot e t)→(∀t,Nat.testBit D t=true→slot e t≠ .und)→((fden P pr loc cd).d γ rg D nrm ex ret).f c e' s= .ok v2 s2→
  ∃x e1 s1 e1',den rc P cd e s= .ok x e1 s1∧(∀t,Nat.testBit loc t=false→slot e1' t=slot e1 t)∧Am e e1∧(x= .nrm→ ∀t,Nat.testBit ((fden P pr loc cd).o D) t=true→slot e1 t≠ .und)∧(nxt nrm ex ret x).f c e1' s1= .ok v2 s2
theorem Oa{cd:Code}(hcd:FdOk P pr loc rc v2 s2 cd){γ:Type}{rg:RG γ}{D:Nat}{nrm:CK γ}{ex:Exs γ}{ret:CK γ}{c:γ}{n:Nat}(hr:RcLe pr (rg.f c) rc)(hk:jG n cd=true)(hst:zq P cd=true){f:LC γ→qa→S→RO}
  (hf:(fden P pr loc cd).d (LC γ) rg.lift D ⟨fun c e s=>tramp (c.ih e s)⟩ (ex.map fun p=>(p.1,p.2.lift)) ret.lift=⟨f⟩): ∀(N:Nat)(e' e:qa)(s:S),(∀t,Nat.testBit loc t=false→slot e' t=slot e t)→(∀t,Nat.testBit D t=true→slot e t≠ .und)→
  FQ (fun ih e s=>f ⟨ih,c⟩ e s) N e' s= .ok v2 s2→
  ∃x e1 s1 e1',E1 (den rc P cd) N e s= .ok x e1 s1∧x≠ .nrm∧(∀t,Nat.testBit loc t=false→slot e1' t=slot e1 t)∧Am e e1∧(nxt nrm ex ret x).f c e1' s1= .ok v2 s2
 |0,e',e,s,hag,hdf,h=>by cases h
 |N+1,e',e,s,hag,hdf,h=>by
  have h:f ⟨FQ (fun ih e s=>f ⟨ih,c⟩ e s) N,c⟩ e' s= .ok v2 s2:=h
  obtain⟨x,e1,s1,e1',h1,h2,h3,h4,h5⟩:=hcd (LC γ) rg.lift D _ _ _ ⟨FQ (fun ih e s=>f ⟨ih,c⟩ e s) N,c⟩ n e' e s (by rw[VJ];exact hr) hk hst hag hdf (by rw[hf];exact h)
  have e0:E1 (den rc P cd) (N+1) e s=KH (E1 (den rc P cd) N) (den rc P cd e s):=rfl
  rw[e0,h1]
  cases x with
  |nrm=>
   obtain⟨x,e3,s3,e3',g1,g2,g3,g4,g5⟩:=Oa hcd hr hk hst hf N e1' e1 s1 h2 (fun t ht=>h3 t (hdf t ht)) h5
   exact⟨x,e3,s3,e3',g1,g2,g3,fun t ht=>g4 t (h3 t ht),g5⟩
  |ext i=>
   refine⟨_,e1,s1,e1',rfl,by simp,h2,h3,?_⟩
   have h5:(Bo i (ex.map fun p=>(p.1,p.2.lift))).f _ e1' s1= .ok v2 s2:=h5
   rw[Hy,R8]at h5;exact h5
  |ret=>
   refine⟨_,e1,s1,e1',rfl,by simp,h2,h3,?_⟩
   have h5:ret.lift.f _ e1' s1= .ok v2 s2:=h5
   rw[R8]at h5;exact h5
theorem AD: ∀cd:Code,FdOk P pr loc rc v2 s2 cd
 | .skip=>fun γ rg D nrm ex ret c n e' e s hr hk hst hag hdf h=>⟨.nrm,e,s,e',rfl,hag,fun t h=>h,fun _=>hdf,h⟩
 | .region id ops dr=>fun γ rg D nrm ex ret c n e' e s hr hk hst hag hdf h=>by
  have hd: ∀o∈ops.toList,∀t,o.dst=some t→t<256:=fun o ho=>SY (List.all_eq_true.1 (show ops.toList.all (ze n)=true from hk) o ho)
  have fin: ∀e1:qa,Am e e1→(∀o∈ops.toList,∀t,o.dst=some t→slot e1 t≠ .und)→ ∀t,Nat.testBit (ops.toList.foldl (fun D o=>skD D o.dst) D) t=true→slot e1 t≠ .und:=fun e1 h1 h2 t ht=>by
   rcases Lz ht with h|⟨o,h3,h4⟩
   ·exact h1 t (hdf t h)
   ·exact h2 o h3 t h4
  cases dr with
  |false=>
   have h:(Pe P pr rg loc nrm D ops.toList).f c e' s= .ok v2 s2:=h
   obtain⟨e1,s1,e1',h1,h2,h3,h4,h5⟩:=ST hr hd hag hdf h
   exact⟨.nrm,e1,s1,e1',h1,h2,h3,fun _=>fin e1 h3 h4,h5⟩
  |true=>
   have h:(Pc P pr rg loc nrm D ops.toList).f c e' s= .ok v2 s2:=h
   have hst:Ef P ops.toList (masks 0 ops.toList [])=true:=hst
   obtain⟨e1,s1,e1',h1,h2,h3,h4,h5⟩:=SQ hr hd hst hag hdf h
   exact⟨.nrm,e1,s1,e1',h1,h2,h3,fun _=>fin e1 h3 h4,h5⟩
 | .seq a b=>fun γ rg D nrm ex ret c n e' e s hr hk hst hag hdf h=>by
  simp only[jG,q1A]at hk
  simp only[zq,q1A]at hst
  have h:((fden P pr loc a).d γ rg D ((fden P pr loc b).d γ rg ((fden P pr loc a).o D) nrm ex ret) ex ret).f c e' s= .ok v2 s2:=h
  obtain⟨x,e1,s1,e1',h1,h2,h3,h4,h5⟩:=AD a γ rg D _ ex ret c n e' e s hr hk.1 hst.1 hag hdf h
  have e0:den rc P (.seq a b) e s=KI (den rc P a e s) (den rc P b):=rfl
  rw[e0,h1]
  cases x with
  |nrm=>
   obtain⟨x,e3,s3,e3',g1,g2,g3,g4,g5⟩:=AD b γ rg _ nrm ex ret c n e1' e1 s1 hr hk.2 hst.2 h2 (h4 rfl) h5
   exact⟨x,e3,s3,e3',g1,g2,fun t ht=>g3 t (h3 t ht),g4,g5⟩
  |ext i=>exact⟨_,e1,s1,e1',rfl,h2,h3,fun h=>(by cases h),h5⟩
  |ret=>exact⟨_,e1,s1,e1',rfl,h2,h3,fun h=>(by cases h),h5⟩
 | .cond x a b=>fun γ rg D nrm ex ret c n e' e s hr hk hst hag hdf h=>by
  simp only[jG,q1A]at hk
  simp only[zq,q1A]at hst
  have h:(match gv (α:=Unit) loc D [] x,(fden P pr loc a).d γ rg D nrm ex ret,(fden P pr loc b).d γ rg D nrm ex ret with
   |some ⟨g⟩,⟨fa⟩,⟨fb⟩=>(⟨fun c e s=>qB (g () e) fun b=> @Bool.rec (fun _=>RO) (fb c e s) (fa c e s) b⟩:CK γ)
   |none,_,_=>badK).f c e' s= .ok v2 s2:=h
  split at h
  ·rename_i _ _ _ g fa fb hg hfa hfb
   obtain⟨t,h1,h2⟩:=PR (show qB (g () e') _= .ok v2 s2 from h)
   have hx:g () e'=qe e x:=qW hg (FK hag hdf)
   rw[hx]at h1
   have e0:den rc P (.cond x a b) e s=Kp (qe e x) (den rc P a) (den rc P b) e s:=rfl
   rw[e0,h1]
   cases t with
   |true=>
    obtain⟨x,e1,s1,e1',h1,h2,h3,h4,h5⟩:=AD a γ rg D nrm ex ret c n e' e s hr hk.1 hst.1 hag hdf (by rw[hfa];exact h2)
    exact⟨x,e1,s1,e1',h1,h2,h3,fun _ t ht=>h3 t (hdf t ht),h5⟩
   |false=>
    obtain⟨x,e1,s1,e1',h1,h2,h3,h4,h5⟩:=AD b γ rg D nrm ex ret c n e' e s hr hk.2 hst.2 hag hdf (by rw[hfb];exact h2)
    exact⟨x,e1,s1,e1',h1,h2,h3,fun _ t ht=>h3 t (hdf t ht),h5⟩
  ·cases h
 | .block id a=>fun γ rg D nrm ex ret c n e' e s hr hk hst hag hdf h=>by
  have hk:jG n a=true:=hk
  have hst:zq P a=true:=hst
  have h:((fden P pr loc a).d γ rg D nrm ((id,nrm)::ex) ret).f c e' s= .ok v2 s2:=h
  obtain⟨x,e1,s1,e1',h1,h2,h3,h4,h5⟩:=AD a γ rg D nrm _ ret c n e' e s hr hk hst hag hdf h
  have e0:den rc P (.block id a) e s=Ho id (den rc P a e s):=rfl
  rw[e0,h1]
  have hD: ∀t,Nat.testBit D t=true→slot e1 t≠ .und:=fun t ht=>h3 t (hdf t ht)
  cases x with
  |nrm=>exact⟨.nrm,e1,s1,e1',rfl,h2,h3,fun _=>hD,h5⟩
  |ret=>exact⟨.ret,e1,s1,e1',rfl,h2,h3,fun _=>hD,h5⟩
  |ext i=>
   have h5:(bif Nat.beq id i then nrm else Bo i ex).f c e1' s1= .ok v2 s2:=h5
   show∃x e2 s2' e1'_1,@Bool.rec (fun _=>R) (.ok (.ext i) e1 s1) (.ok .nrm e1 s1) (Nat.beq i id)= .ok x e2 s2'∧_
   cases hb:Nat.beq i id with
   |true=>
    have:=q2m hb
    subst this
    rw[hb]at h5
    exact⟨.nrm,e1,s1,e1',rfl,h2,h3,fun _=>hD,h5⟩
   |false=>
    have hb2:Nat.beq id i=false:=by
     cases h:Nat.beq id i with
     |false=>rfl
     |true=>rw[q2m h]at hb;simp at hb
    rw[hb2]at h5
    exact⟨.ext i,e1,s1,e1',rfl,h2,h3,fun _=>hD,h5⟩
 | .loop a=>fun γ rg D nrm ex ret c n e' e s hr hk hst hag hdf h=>by
  have hk:jG n a=true:=hk
  have hst:zq P a=true:=hst
  have h:(match(fden P pr loc a).d (LC γ) rg.lift D ⟨fun c e s=>tramp (c.ih e s)⟩ (ex.map fun(p:Nat×CK γ)=>(p.1,p.2.lift)) ret.lift with
   |⟨f⟩=>(⟨fun c e s=>FQ (fun ih e s=>f ⟨ih,c⟩ e s) 1000000 e s⟩:CK γ)).f c e' s= .ok v2 s2:=h
  generalize hf:(fden P pr loc a).d (LC γ) rg.lift D ⟨fun c e s=>tramp (c.ih e s)⟩ (ex.map fun(p:Nat×CK γ)=>(p.1,p.2.lift)) ret.lift=q at h
  obtain⟨f⟩:=q
  have h:FQ (fun ih e s=>f ⟨ih,c⟩ e s) 1000000 e' s= .ok v2 s2:=h
  obtain⟨x,e1,s1,e1',h1,h2,h3,h4,h5⟩:=Oa (nrm:=nrm) (AD a) hr hk hst hf 1000000 e' e s hag hdf h
  exact⟨x,e1,s1,e1',h1,h3,h4,fun h=>absurd h h2,h5⟩
 | .exit id=>fun γ rg D nrm ex ret c n e' e s hr hk hst hag hdf h=>⟨.ext id,e,s,e',rfl,hag,fun t h=>h,fun _=>hdf,h⟩
 | .label l=>fun γ rg D nrm ex ret c n e' e s hr hk hst hag hdf h=>⟨.nrm,e,s,e',rfl,hag,fun t h=>h,fun _=>hdf,h⟩
 | .rangeFunc .. =>fun γ rg D nrm ex ret c n e' e s hr hk hst hag hdf h=>by cases h
 | .goto _=>fun γ rg D nrm ex ret c n e' e s hr hk hst hag hdf h=>by cases h
 | .scope _=>fun γ rg D nrm ex ret c n e' e s hr hk hst hag hdf h=>by cases h
 | .refuse _=>fun γ rg D nrm ex ret c n e' e s hr hk hst hag hdf h=>by cases h
 | .ret=>fun γ rg D nrm ex ret c n e' e s hr hk hst hag hdf h=>⟨.ret,e,s,e',rfl,hag,fun t h=>h,fun _=>hdf,h⟩
end
end
noncomputable section
section
variable {v2:V} {s2:S} {P:Program} {pr:vQ} {loc:Nat} {rc:FuncId→List V→S→RO}
theorem Ox{r:ResultVar}{g:RV}{e' e:qa}{s:S}{K:V→RO}(hc:resC P loc r=some g)(hag: ∀t,Nat.testBit loc t=false→slot e' t=slot e t)(h:g.f e' s K= .ok v2 s2):isC (vg P e s.m r)=true∧K (vg P e s.m r)= .ok v2 s2:=by
 have hi:Inv loc 0 ([]:Mp Unit) () e' e:=FK hag (fun t h=>by simp at h)
 cases r with
 |tmp t=>
  unfold resC at hc
  simp only at hc
  split at hc
  ·rename_i gg hg
   cases hc
   have hx:gg () e'=slot e t:=qW hg hi
   have h:=PS (show qK (gg () e') K= .ok v2 s2 from h)
   rw[hx]at h
   exact h
  ·cases hc
 |cell a t=>
  unfold resC at hc
  simp only at hc
  split at hc
  ·rename_i gg g0 sz hg hs
   cases hb:(g0||Nat.beq sz 1)with
   |false=>rw[hb]at hc;cases hc
   |true=>
    rw[hb]at hc
    cases hc
    have hx:gg () e'=slot e a:=qW hg hi
    have hsz:g0=false→sz=1:=fun h=>by rw[h,Bool.false_or]at hb;exact q2m hb
    obtain⟨u,ks,h1,h2,h3⟩:=LX (P:=P) hs hsz (show zk g0 sz s.m (gg () e') (fun v=>qK v K)= .ok v2 s2 from h)
    rw[hx]at h3
    have h4:=PS h2
    show isC (jb P s.m t (slot e a)).res=true∧K (jb P s.m t (slot e a)).res=_
    rw[h3];exact h4
  ·cases hc
theorem Oy{e' e:qa}{s:S}(hag: ∀t,Nat.testBit loc t=false→slot e' t=slot e t): ∀{l:List ResultVar}{g:RL}{K:List V→RO},resL P loc l=some g→g.f e' s K= .ok v2 s2→(l.map (vg P e s.m)).all isC=true∧K (l.map (vg P e s.m))= .ok v2 s2
 |[],g,K,hc,h=>by cases hc;exact⟨rfl,h⟩
 |r::l,g,K,hc,h=>by
  unfold resL at hc
  split at hc
  ·rename_i g1 g2 h1 h2
   cases hc
   obtain⟨k1,k2⟩:=Ox h1 hag (show g1 e' s _= .ok v2 s2 from h)
   obtain⟨k3,k4⟩:=Oy hag h2 (show g2 e' s _= .ok v2 s2 from k2)
   exact⟨by rw[q20,List.all_cons,k1,k3];rfl,k4⟩
  ·cases hc
theorem Wh{γ:Type}{c:γ}{l:List ResultVar}{e' e:qa}{s:S}(hag: ∀t,Nat.testBit loc t=false→slot e' t=slot e t)(h:(retC P loc l).f c e' s= .ok v2 s2):v2≠ .und∧retA s (l.map (vg P e s.m))= .ok v2 s2:=by
 have many: ∀l:List ResultVar,l.length≠1→(match resL P loc l with|some ⟨g⟩=>(⟨fun _ e s=>g e s fun l=> .ok (.tu l) s⟩:CK γ)|none=>badK).f c e' s= .ok v2 s2→v2≠ .und∧retA s (l.map (vg P e s.m))= .ok v2 s2:=by
  intro l hl h
  split at h
  ·rename_i g hg
   obtain⟨k1,k2⟩:=Oy hag hg (show g e' s _= .ok v2 s2 from h)
   have k2:RO.ok (.tu (l.map (vg P e s.m))) s= .ok v2 s2:=k2
   injection k2 with a b
   subst a;subst b
   refine⟨by simp,?_⟩
   unfold retA
   rw[k1]
   show retL s (l.map (vg P e s.m))=_
   unfold retL
   split
   ·rename_i v hv
    have:=congrArg List.length hv
    rw[q1X]at this
    exact absurd this hl
   ·rfl
  ·cases h
 match l,h with
 |[],h=>exact many [] (by simp) h
 |[r],h=>
  have h:(match resC P loc r with|some ⟨g⟩=>(⟨fun _ e s=>g e s fun v=> .ok v s⟩:CK γ)|none=>badK).f c e' s= .ok v2 s2:=h
  split at h
  ·rename_i g hg
   obtain⟨k1,k2⟩:=Ox hg hag (show g e' s _= .ok v2 s2 from h)
   have k2:RO.ok (vg P e s.m r) s= .ok v2 s2:=k2
   injection k2 with a b
   subst a;subst b
   refine⟨fun e2=>(by rw[e2]at k1;cases k1),?_⟩
   unfold retA
   show @Bool.rec (fun _=>RO) _ _ (isC (vg P e s.m r)&&true)=_
   rw[k1];rfl
  ·cases h
 |a::b::r,h=>exact many (a::b::r) (by simp) h
theorem Mu{w:Row}{n:Nat}(h:n≤16):(rowL w n).length=n:=by
 unfold rowL
 rw[q1Z]
 show min n 16=n
 omega
theorem Yj{tb:FuncId→Nat}(Hst: ∀(f:FuncId) fn c,P.funcs[f]?=some fn→fn.body=some c→zq P c=true){n:Nat}{ih:Rc}(hr:RcLe pr ih.call (DC P pr n)){f:FuncId}{w:Row}{k:Nat}{s s':S}{v:V}(h:(fnC P pr tb f).g ih w k s= .ok v s'):
  k≤16∧((ju (rowL w k)).c0=w→(∀x∈rowL w k,x≠ .und)→v≠ .und∧DC P pr (n+1) f (rowL w k) s= .ok v s'):=by
 have e0: ∀vs s,DC P pr (n+1) f vs s=(match pr f with
   |some g=>addT f (g vs s)
   |none=>(match P.funcs[f]? with
    |some fn=>(match fn.body with
     |some c=> @Bool.rec (fun _=>RO) (.no [17]) (addT f (retR P fn.results.toList (den (DC P pr n) P c (ju vs) s))) (jG fn.ntmps c&&Nat.ble vs.length 16&&Nat.ble vs.length fn.ntmps&&Be fn)
     |none=> .no [15])
    |none=> .no [16])):=fun _ _=>rfl
 rw[e0]
 unfold fnC at h
 split at h
 ·rename_i g hg
  obtain⟨h1,h2⟩:=vp (show @Bool.rec (fun _=>RO) (.no [17]) (roK (g (rowL w k) s) fun v s=>qF v fun v=> .ok v s) (Nat.ble k 16)= .ok v s' from h)
  obtain⟨v1,s1,h3,h4⟩:=F7 h2
  obtain⟨h5,h6⟩:=AY h4
  cases h6
  refine⟨q2o h1,fun _ _=>⟨h5,?_⟩⟩
  rw[hg]
  show addT f (g (rowL w k) s)=_
  rw[h3];rfl
 ·rename_i hpr
  rw[hpr]
  simp only
  split at h
  ·rename_i fn hfn
   split at h
   ·rename_i c hc
    cases hk:(jG fn.ntmps c&&Be fn)with
    |false=>rw[hk]at h;cases h
    |true=>
     rw[hk,cond_true]at h
     simp only[q1A]at hk
     have h:(match(fden P pr (tb f) c).d Rc Km (2^fn.params.size-1) (retC P (tb f) fn.results.toList) [] (retC P (tb f) fn.results.toList)with
      |⟨run⟩=>(⟨fun rc w n s=> @Bool.rec (fun _=>RO) (.no [17]) (run rc ⟨w,qU,qU,qU,qU,qU,qU,qU,qU,qU,qU,qU,qU,qU,qU,qU⟩ s) (jj (Nat.ble n (Nat.min 16 fn.ntmps)) (Nat.ble fn.params.size n))⟩:FnC)).g ih w k s= .ok v s':=h
     generalize hrun:(fden P pr (tb f) c).d Rc Km (2^fn.params.size-1) (retC P (tb f) fn.results.toList) [] (retC P (tb f) fn.results.toList)=q at h
     obtain⟨run⟩:=q
     obtain⟨h1,h2⟩:=vp (show @Bool.rec (fun _=>RO) (.no [17]) (run ih ⟨w,qU,qU,qU,qU,qU,qU,qU,qU,qU,qU,qU,qU,qU,qU,qU⟩ s) (jj (Nat.ble k (Nat.min 16 fn.ntmps)) (Nat.ble fn.params.size k))= .ok v s' from h)
     rw[jz]at h1
     have hk16:k≤Nat.min 16 fn.ntmps:=q2o h1.1
     have hp:fn.params.size≤k:=q2o h1.2
     have k16:k≤16:=q2s hk16 (Nat.min_le_left _ _)
     have knt:k≤fn.ntmps:=q2s hk16 (Nat.min_le_right _ _)
     refine⟨k16,fun hw hvs=>?_⟩
     have hE:(⟨w,qU,qU,qU,qU,qU,qU,qU,qU,qU,qU,qU,qU,qU,qU,qU⟩:qa)=ju (rowL w k):=by
      have:ju (rowL w k)=⟨(ju (rowL w k)).c0,qU,qU,qU,qU,qU,qU,qU,qU,qU,qU,qU,qU,qU,qU,qU⟩:=rfl
      rw[this,hw]
     rw[hE]at h2
     have hdf: ∀t,Nat.testBit (2^fn.params.size-1) t=true→slot (ju (rowL w k)) t≠ .und:=fun t ht=>by
      rw[Nat.testBit_two_pow_sub_one]at ht
      have ht:=of_decide_eq_true ht
      have hlen:=Mu (w:=w) k16
      rw[Ee,if_pos (by omega)]
      have hlt:t<(rowL w k).length:=by omega
      rw[GL (q1Q hlt)]
      exact hvs _ (List.getElem_mem hlt)
     obtain⟨x,e1,s1,e1',g1,g2,g3,g4,g5⟩:=AD (v2:=v) (s2:=s') c Rc Km (2^fn.params.size-1) _ [] _ ih fn.ntmps _ (ju (rowL w k)) s hr hk.1 (Hst f fn c hfn hc) (fun t _=>rfl) hdf (by rw[hrun];exact h2)
     have hret: ∀y:X,y= .nrm∨y= .ret→(retC P (tb f) fn.results.toList).f ih e1' s1= .ok v s'→v≠ .und∧retR P fn.results.toList (.ok y e1 s1)= .ok v s':=fun y hy h=>by
      obtain⟨k1,k2⟩:=Wh g2 h
      refine⟨k1,?_⟩
      rcases hy with rfl|rfl<;>exact k2
     have hfin:v≠ .und∧retR P fn.results.toList (.ok x e1 s1)= .ok v s':=by
      cases x with
      |nrm=>exact hret _ (.inl rfl) g5
      |ret=>exact hret _ (.inr rfl) g5
      |ext i=>cases g5
     refine⟨hfin.1,?_⟩
     rw[hfn]
     simp only
     rw[hc]
     simp only
     rw[Mu k16,hk.1,hk.2,Nat.ble_eq_true_of_le k16,Nat.ble_eq_true_of_le knt,g1]
     show addT f (retR P fn.results.toList (.ok x e1 s1))=_
     rw[hfin.2];rfl
   ·cases h
  ·cases h
theorem L9{tb:FuncId→Nat}(Hst: ∀(f:FuncId) fn c,P.funcs[f]?=some fn→fn.body=some c→zq P c=true): ∀n,RcLe pr (Ci P pr tb n).call (DC P pr (n+1))
 |0=>⟨fun f w k s v s' h=>(by cases h),fun f g hg vs s v s' h=>by
   show(match pr f with|some g=>addT f (g vs s)|none=>_)=_
   rw[hg];simp only;rw[h];rfl⟩
 |n+1=>⟨fun f w k s v s' h=>Yj Hst (L9 Hst n) h,fun f g hg vs s v s' h=>by
   show(match pr f with|some g=>addT f (g vs s)|none=>_)=_
   rw[hg];simp only;rw[h];rfl⟩
theorem Gv{D:List Int}{tb:FuncId→Nat}(Hst: ∀(f:FuncId) fn c,P.funcs[f]?=some fn→fn.body=some c→zq P c=true)(hp:Eu D P pr)(hm:P.follows .mixedOrders=true){n:Nat}{f:FuncId}{vs:List V}{s s':S}{v:V}
  (h:(Ci P pr tb n).call f (ju vs).c0 vs.length s= .ok v s')(hvs: ∀x∈vs,x.ok∧x≠ .und)(hs:SOK D s):CallOk D P f vs s v s':=by
 obtain⟨h1,h2⟩:=(L9 (pr:=pr) (tb:=tb) Hst n).code _ _ _ _ _ _ h
 rw[GR h1]at h2
 obtain⟨_,h4⟩:=h2 rfl fun x hx=>(hvs x hx).2
 exact L8 hp hm (n+1) f vs s v s' h4 hvs hs
end
end
noncomputable section
section
variable {D:List Int} {P:Program}
theorem ww{f:FuncId}{vs:List V}{v:V}{s:S}(h:Sig P f (vs.map (qm D)) (qm D v))(hs:SOK D s)(hv:v.ok)(hne:v≠ .und):CallOk D P f vs s v s:=by
 refine⟨h.1,hs,q2r _,hv,hne,fun k hk=> .inl hk,fun us w H β hargs hM hon hdom=>?_⟩
 refine Calls.mono (h.2 us w H β hargs (fun p hp=>by simp at hp) (fun p hp=>by simp at hp) hon) ?_
 rintro e w' ⟨u,H',β',rfl,hst,hsat,_⟩
 have hb:β'=β:=by funext k;exact hst.beta k (by simp[qw])
 subst hb
 have hkeep: ∀b,b<w.heap.size→w'.heap[b]?=w.heap[b]?:=fun b hb=>hst.keep b hb fun k hk=>by simp[kwOf]at hk
 refine⟨u,H',β',rfl,⟨hst.os,hst.tape,hst.output,hst.size,fun b hb _=>hkeep b hb,hst.hle,hst.hnew,hst.hon,fun k _=>rfl,fun k b hb bb c hβ=> .inr ⟨k,by rw[hb];simp,c,hβ⟩⟩,hsat,⟨fun k b hb=>?_,fun k b hb bb c hβ=>?_,hM.inj⟩⟩
 ·exact Blk.rep_congr (hM.rep k b hb) hst.hle (fun _ _=>rfl) (fun bb c hβ=>hkeep bb (hM.own k b hb bb c hβ).2)
 ·obtain⟨h1,h2⟩:=hM.own k b hb bb c hβ
  refine⟨?_,q2u h2 hst.size⟩
  cases hH:H' bb with
  |none=>rfl
  |some cs=>
   rcases hst.hnew bb (by rw[hH];simp)with h3|h3
   ·exact absurd h1 h3
   ·omega
end
def rV(x:Rat):V:= .qq (decide (x.num<0)) x.num.natAbs x.den
theorem PU(x:Rat):(rV x).okC:=⟨x.den_nz,x.reduced,fun h=>by simp at h;omega⟩
theorem PT{s:Bool}{n d:Nat}(h:QWF s n d): ∃x:Rat,s=decide (x.num<0)∧n=x.num.natAbs∧d=x.den:=by
 obtain⟨h1,h2,h3⟩:=h
 have hd:0<d:=q2H h1
 refine⟨qd s n d,?_,?_,?_⟩
 ·by_cases hn:n=0
  ·subst hn
   cases s with
   |true=>exact absurd rfl (h3 rfl)
   |false=>rw[wv];rfl
  ·exact(jt (q2H hn) hd).symm
 ·rw[ji hd,h2];simp
 ·rw[(j4 hd).2,h2];simp
theorem ET{s:Bool}{n d:Nat}(hd:0<d):mkQ s n d=rV (qd s n d):=by
 unfold mkQ
 by_cases hn:n=0
 ·subst hn
  rw[wv];rfl
 ·rw[jh hn]
  have e1:=jt (neg:=s) (q2H hn) hd
  have e2:=ji (neg:=s) (n:=n) hd
  have e3:=(j4 (neg:=s) (n:=n) hd).2
  unfold rV
  rw[e1,e2,e3]
  simp only
  cases hg:Nat.beq (Nat.gcd n d) 1 with
  |true=>
   have:=q2m hg
   rw[this];simp
  |false=>rfl
theorem UL(s:Bool)(a:Nat)(t:Bool)(b d:Nat)(hd:0<d):addS s a t b d=rV (mkRat (sgI s a+sgI t b) d):=by
 unfold addS
 cases hst:s==t with
 |true=>
  have:s=t:=by simpa using hst
  subst this
  rw[Mw]
  exact ET hd
 |false=>
  have hne:s≠t:=by simpa using hst
  simp only
  cases hb:Nat.ble b a with
  |true=>
   have hb:b≤a:=by simpa using hb
   rw[S2 hne hb]
   exact ET hd
  |false=>
   have hb:a≤b:=by
    have: ¬b≤a:=bleF hb
    omega
   rw[S3 hne hb]
   exact ET hd
theorem Or(x y:Rat)(t:Bool):qadd (decide (x.num<0)) x.num.natAbs x.den t y.num.natAbs y.den=rV (x+yQ t y):=by
 unfold qadd
 show addS _ (x.num.natAbs*y.den) t (y.num.natAbs*x.den) (x.den*y.den)=_
 rw[UL _ _ _ _ _ (q2G x.den_pos y.den_pos),Hd]
theorem OX(a b:Bool):xorB a b=decide (a≠b):=by cases a<;>cases b<;>rfl
theorem W6(x y:Rat):qmul (decide (x.num<0)) x.num.natAbs x.den (decide (y.num<0)) y.num.natAbs y.den=rV (x*y):=by
 unfold qmul
 show mkQ _ (x.num.natAbs*y.num.natAbs) (x.den*y.den)=_
 rw[ET (q2G x.den_pos y.den_pos),OX]
 rw[←Dn]
theorem Yx (y : Rat) (hy : y.num.natAbs ≠ 0) : y⁻¹ = qd (decide (y.num < 0)) y.den y.num.natAbs := by
 have h0 : y.num ≠ 0 := fun e => hy (by rw [e]; rfl)
 have h1 : 0 < y.num.natAbs := q2H hy
 have h2 : y ≠ 0 := fun e => h0 (by rw [e]; rfl)
 have h3 : qd (decide (y.num < 0)) y.den y.num.natAbs * y = 1 := by
  conv => lhs; rhs; rw [← vq y]
  rw [G7]
  unfold qd
  rw [show (1 : Rat) = mkRat 1 1 from rfl, Rat.mkRat_eq_iff (Nat.ne_of_gt (q2G h1 y.den_pos)) (by decide)]
  simp [sgI, q2C]
 have h4 : y * y⁻¹ = 1 := Rat.mul_inv_cancel y h2
 calc y⁻¹ = 1 * y⁻¹ := (Rat.one_mul _).symm
  _ = (qd (decide (y.num < 0)) y.den y.num.natAbs * y) * y⁻¹ := by rw [h3]
  _ = qd (decide (y.num < 0)) y.den y.num.natAbs := by rw [Rat.mul_assoc, h4, Rat.mul_one]
theorem J2(x y:Rat)(hy:y.num.natAbs≠0):qmul (decide (x.num<0)) x.num.natAbs x.den (decide (y.num<0)) y.den y.num.natAbs=rV (x/y):=by
 unfold qmul
 show mkQ _ (x.num.natAbs*y.den) (x.den*y.num.natAbs)=_
 rw[ET (q2G x.den_pos (q2H hy)),OX,Rat.div_def,Yx y hy]
 conv=>rhs;rw[←vq x,G7]
theorem Mr(x y:Rat):qlt (decide (x.num<0)) x.num.natAbs x.den (decide (y.num<0)) y.num.natAbs y.den=decide (x<y):=by
 have h:=Rat.lt_iff x y
 have hx:=x.den_pos
 have hy:=y.den_pos
 generalize x.num=p at*
 generalize x.den=c at*
 generalize y.num=q at*
 generalize y.den=d at*
 have e: ∀b:Bool,(b=true↔p*(d:Int)<q*(c:Int))→b=decide (x<y):=fun b hb=>by
  cases b with
  |true=>exact(decide_eq_true (h.2 (hb.1 rfl))).symm
  |false=>exact(decide_eq_false (fun hh=>by have:=hb.2 (h.1 hh);cases this)).symm
 apply e
 by_cases hp:p<0
 ·obtain⟨a,rfl⟩: ∃a:Nat,p= -(a:Int):=⟨p.natAbs,by omega⟩
  by_cases hq:q<0
  ·obtain⟨b,rfl⟩: ∃b:Nat,q= -(b:Int):=⟨q.natAbs,by omega⟩
   simp only[hp,hq,decide_true,Int.natAbs_neg,Int.natAbs_natCast,qlt,Int.neg_mul]
   have e1:((a*d:Nat):Int)=(a:Int)*d:=q1D _ _
   have e2:((b*c:Nat):Int)=(b:Int)*c:=q1D _ _
   rw[←e1,←e2]
   show Nat.blt (b*c) (a*d)=true↔_
   simp;omega
  ·simp only[hp,hq,decide_true,decide_false,qlt]
   have h1: -(a:Int)*d<0:=Int.mul_neg_of_neg_of_pos hp (by omega)
   have h2:0≤q*(c:Int):=Int.mul_nonneg (by omega) (by omega)
   simp;omega
 ·obtain⟨a,rfl⟩: ∃a:Nat,p=(a:Int):=⟨p.natAbs,by omega⟩
  by_cases hq:q<0
  ·simp only[hp,hq,decide_true,decide_false,qlt]
   have h1:q*(c:Int)<0:=Int.mul_neg_of_neg_of_pos hq (by omega)
   have h2:0≤(a:Int)*d:=Int.mul_nonneg (by omega) (by omega)
   simp;omega
  ·obtain⟨b,rfl⟩: ∃b:Nat,q=(b:Int):=⟨q.natAbs,by omega⟩
   simp only[hp,hq,decide_false,Int.natAbs_natCast,qlt]
   have e1:((a*d:Nat):Int)=(a:Int)*d:=q1D _ _
   have e2:((b*c:Nat):Int)=(b:Int)*c:=q1D _ _
   rw[←e1,←e2]
   show Nat.blt (a*d) (b*c)=true↔_
   simp only[Nat.blt_eq];omega
theorem RC(x y:Rat):qeq (decide (x.num<0)) x.num.natAbs x.den (decide (y.num<0)) y.num.natAbs y.den=decide (x=y):=by
 unfold qeq
 by_cases h:x=y
 ·subst h;simp
 ·rw[decide_eq_false h]
  cases hq:Nat.beq x.num.natAbs y.num.natAbs&&Nat.beq x.den y.den&&(decide (x.num<0)==decide (y.num<0))with
  |false=>rfl
  |true=>
   simp only[q1A]at hq
   obtain⟨⟨h1,h2⟩,h3⟩:=hq
   have h1:=q2m h1
   have h2:=q2m h2
   have h3:decide (x.num<0)=decide (y.num<0):=by simpa using h3
   exfalso
   apply h
   rw[←vq x,←vq y,h1,h2,h3]
theorem V4(x y:Rat):cmpV (decide (x.num<0)) x.num.natAbs x.den (decide (y.num<0)) y.num.natAbs y.den=ofI .i64 (jF x y):=by
 unfold cmpV
 rw[Mr,RC]
 unfold jF
 by_cases h1:y<x
 ·rw[decide_eq_true h1,if_neg (fun h=>absurd (Rat.not_lt.2 (Rat.le_of_lt h1)) (fun hh=>hh h)),if_neg (fun h=>by subst h;exact absurd h1 Rat.lt_irrefl)];rfl
 ·rw[decide_eq_false h1]
  by_cases h2:x=y
  ·subst h2;rw[decide_eq_true rfl,if_neg h1,if_pos rfl];rfl
  ·rw[decide_eq_false h2,if_pos,]
   ·rfl
   ·rcases Rat.le_iff_lt_or_eq.1 (Rat.not_lt.1 h1)with h|h
    ·exact h
    ·exact absurd h h2
end
noncomputable section
section
variable {D:List Int} {P:Program}
def qM(D:List Int)(P:Program)(f:FuncId)(g:List V→S→RO):Prop:= ∀vs s v s',g vs s= .ok v s'→(∀x∈vs,x.ok∧x≠ .und)→SOK D s→CallOk D P f vs s v s'
theorem GQ{L:List (Nat×Pt)}(h: ∀p∈L,qM D P p.1 (qR p.2)):Eu D P (prims L):=by
 intro f g hg
 unfold prims at hg
 split at hg
 ·rename_i p hp
  cases hg
  have: ∀L:List (Nat×Pt),look L f=some p→(f,p)∈L:=by
   intro L
   induction L with
   |nil=>intro h;cases h
   |cons q r ih=>
    intro h
    have h:(bif Nat.beq q.1 f then some q.2 else look r f)=some p:=h
    cases hb:Nat.beq q.1 f with
    |true=>
     rw[hb]at h;cases h
     have:=q2m hb
     subst this;simp
    |false=>rw[hb]at h;exact q23 _ (ih h)
  exact h _ (this L hp)
 ·cases hg
theorem zB{a k:Nat}(h:Nat.log2 a≤k):qt a (k+1):=q2u Nat.lt_log2_self (q2J (by decide) (by omega))
theorem MC{a:Nat}(h:smB a=true):qt a 68719476736:=qb (by decide) (zB (k:=1000000) (q2o h))
theorem Ja{x:Rat}(h1:smB x.num.natAbs=true)(h2:smB x.den=true):Bnd .rat (.n 68719476736) x:=⟨MC h1,q2p (MC h2)⟩
theorem Fu{x:Rat}(h:Bnd .rat (.n 68719476736) x):Bnd .rat (.n 1099511627776) x:=⟨qb (by decide) h.1,A8 (by decide) h.2⟩
theorem AP(x:Rat):(.c (.agg (qj .rat x)):AV)=qm D (rV x):=rfl
theorem rV_k(x:Rat):(rV x).ok∧rV x≠ .und:=⟨PU x,by simp[rV]⟩
theorem Dk{f:FuncId}{R:Rat→AV}{h:Bool→Nat→Nat→V}(g:Rat→V)(hs: ∀x:Rat,Bnd .rat (.n 68719476736) x→Sig P f (argsE [.rat] x) (R x))(he: ∀x:Rat,h (decide (x.num<0)) x.num.natAbs x.den=g x)(hR: ∀x,R x=qm D (g x))(hg: ∀x,(g x).ok∧g x≠ .und):qM D P f (one h):=by
 intro vs s v s' hv hvs hsk
 unfold one at hv
 split at hv
 ·rename_i a n d
  have hq:QWF a n d:=(hvs (.qq a n d) (by simp)).1
  obtain⟨x,rfl,rfl,rfl⟩:=PT hq
  cases hb:(smB x.num.natAbs&&smB x.den)with
  |false=>rw[hb]at hv;cases hv
  |true=>
   rw[hb]at hv
   simp only[q1A]at hb
   rw[he]at hv
   have hv:RO.ok (g x) s= .ok v s':=hv
   injection hv with h1 h2
   subst h1;subst h2
   have:=hs x (Ja hb.1 hb.2)
   rw[hR]at this
   exact ww (vs:=[rV x]) this hsk (hg x).1 (hg x).2
 ·cases hv
theorem wO{f:FuncId}{R:Rat→Rat→AV}{h:Bool→Nat→Nat→Bool→Nat→Nat→V}(g:Rat→Rat→V)(hs: ∀x y:Rat,Bnd .rat (.n 68719476736) x→Bnd .rat (.n 68719476736) y→Sig P f (argsE [.rat,.rat] (x,y)) (R x y))
  (he: ∀x y:Rat,h (decide (x.num<0)) x.num.natAbs x.den (decide (y.num<0)) y.num.natAbs y.den=g x y)(hR: ∀x y,R x y=qm D (g x y))(hg: ∀x y,(g x y).ok∧g x y≠ .und):qM D P f (two h):=by
 intro vs s v s' hv hvs hsk
 unfold two at hv
 split at hv
 ·rename_i a n d a' n' d'
  have hq:QWF a n d:=(hvs (.qq a n d) (by simp)).1
  have hq':QWF a' n' d':=(hvs (.qq a' n' d') (by simp)).1
  obtain⟨x,rfl,rfl,rfl⟩:=PT hq
  obtain⟨y,rfl,rfl,rfl⟩:=PT hq'
  cases hb:(smB x.num.natAbs&&smB x.den&&(smB y.num.natAbs&&smB y.den))with
  |false=>rw[hb]at hv;cases hv
  |true=>
   rw[hb]at hv
   simp only[q1A]at hb
   rw[he]at hv
   have hv:RO.ok (g x y) s= .ok v s':=hv
   injection hv with h1 h2
   subst h1;subst h2
   have:=hs x y (Ja hb.1.1 hb.1.2) (Ja hb.2.1 hb.2.2)
   rw[hR]at this
   exact ww (vs:=[rV x,rV y]) this hsk (hg x y).1 (hg x y).2
 ·cases hv
theorem IN(z:Int):(ofI .i64 z).ok∧ofI .i64 z≠ .und:=by cases z<;>exact⟨trivial,by simp[ofI]⟩
theorem P7(z:Int):(.c (.one (.val (.int .i64 z))):AV)=qm D (ofI .i64 z):=by cases z<;>rfl
theorem CZ(z:Int):argC (.int .i64) z=qm D (ofI .i64 z):=by cases z<;>rfl
theorem Ut{f:FuncId}(hs: ∀x y:Rat,Bnd .rat (.n 68719476736) x→Bnd .rat (.n 68719476736) y→Sig P f (argsE [.rat,.rat] (x,y)) (.c (.agg (qj .rat (x+y))))):qM D P f (qR .add):=
 wO (h:=qadd) (fun x y=>rV (x+y)) hs (fun x y=>by rw[Or,BM]) (fun x y=>AP _) fun x y=>rV_k _
theorem Uz{f:FuncId}(hs: ∀x y:Rat,Bnd .rat (.n 68719476736) x→Bnd .rat (.n 68719476736) y→Sig P f (argsE [.rat,.rat] (x,y)) (.c (.agg (qj .rat (x-y))))):qM D P f (qR .sub):=
 wO (h:=fun a b c d e f=>qadd a b c (!d) e f) (fun x y=>rV (x-y)) hs (fun x y=>by rw[Or,Nc,Rat.sub_eq_add_neg]) (fun x y=>AP _) fun x y=>rV_k _
theorem Ux{f:FuncId}(hs: ∀x y:Rat,Bnd .rat (.n 68719476736) x→Bnd .rat (.n 68719476736) y→Sig P f (argsE [.rat,.rat] (x,y)) (.c (.agg (qj .rat (x*y))))):qM D P f (qR .mul):=
 wO (h:=qmul) (fun x y=>rV (x*y)) hs (fun x y=>W6 x y) (fun x y=>AP _) fun x y=>rV_k _
theorem q0L{f:FuncId}(hs: ∀x y:Rat,Bnd .rat (.n 68719476736) x→Bnd .rat (.n 68719476736) y→Sig P f (argsE [.rat,.rat] (x,y)) (.c (.agg (qj .rat (maxQ x y))))):qM D P f (qR .max):=by
 refine wO (h:=fun a b c d e f=> @Bool.rec (fun _=>V) (.qq a b c) (.qq d e f) (qlt a b c d e f)) (fun x y=>rV (maxQ x y)) hs (fun x y=>?_) (fun x y=>AP _) fun x y=>rV_k _
 simp only[Mr]
 unfold maxQ jF
 by_cases h:x<y
 ·have h1: ¬y<x:=Rat.not_lt.2 (Rat.le_of_lt h)
  have h2: ¬y=x:=fun e=>by subst e;exact absurd h Rat.lt_irrefl
  rw[decide_eq_true h,if_neg h1,if_neg h2,if_pos (by decide)];rfl
 ·rw[decide_eq_false h]
  by_cases h1:y<x
  ·rw[if_pos h1,if_neg (by decide)];rfl
  ·have h2:y=x:=by
    rcases Rat.le_iff_lt_or_eq.1 (Rat.not_lt.1 h)with h3|h3
    ·exact absurd h3 h1
    ·exact h3
   rw[if_neg h1,if_pos h2,if_neg (by decide)];rfl
theorem q0M{f:FuncId}(hs: ∀x y:Rat,Bnd .rat (.n 68719476736) x→Bnd .rat (.n 68719476736) y→Sig P f (argsE [.rat,.rat] (x,y)) (.c (.agg (qj .rat (minQ x y))))):qM D P f (qR .min):=by
 refine wO (h:=fun a b c d e f=> @Bool.rec (fun _=>V) (.qq a b c) (.qq d e f) (qlt d e f a b c)) (fun x y=>rV (minQ x y)) hs (fun x y=>?_) (fun x y=>AP _) fun x y=>rV_k _
 simp only[Mr]
 unfold minQ jF
 by_cases h:y<x
 ·rw[decide_eq_true h,if_pos h,if_pos (by decide)];rfl
 ·rw[decide_eq_false h,if_neg h]
  by_cases h1:y=x
  ·rw[if_pos h1,if_neg (by decide)];rfl
  ·rw[if_neg h1,if_neg (by decide)];rfl
theorem Uu{f:FuncId}(hs: ∀x y:Rat,Bnd .rat (.n 68719476736) x→Bnd .rat (.n 68719476736) y→Sig P f (argsE [.rat,.rat] (x,y)) (.c (.one (.val (.int .i64 (jF x y)))))):qM D P f (qR .cmp):=
 wO (h:=cmpV) (fun x y=>ofI .i64 (jF x y)) hs (fun x y=>V4 x y) (fun x y=>P7 _) fun x y=>IN _
theorem Rz{f:FuncId}(hs: ∀x y:Rat,Bnd .rat (.n 68719476736) x→Bnd .rat (.n 68719476736) y→Sig P f (argsE [.rat,.rat] (x,y)) (.c (.one (.val (.bool (decide (x=y))))))):qM D P f (qR .same):=
 wO (h:=fun a b c d e f=> .bb (qeq a b c d e f)) (fun x y=> .bb (decide (x=y))) hs (fun x y=>by rw[RC]) (fun x y=>rfl) fun x y=>⟨trivial,by simp⟩
theorem Ur{x:Rat}(h:x.num=0):x=0:=by
 rw[←vq x,h]
 exact wv _ _
theorem Uj{x y:Rat}(h:y.num.natAbs=0):x/y=0:=by
 have:y=0:=by
  have:y.num=0:=by omega
  exact Ur this
 rw[this,Rat.div_def,Rat.inv_zero,Rat.mul_zero]
theorem Uy{f:FuncId}(hs: ∀x y:Rat,Bnd .rat (.n 68719476736) x→Bnd .rat (.n 68719476736) y→Sig P f (argsE [.rat,.rat] (x,y)) (.tup [.agg (qj .rat (x/y)),.one (.val (.int .i64 (quoC y)))])):qM D P f (qR .quo):=by
 refine wO (h:=fun a b c d e f=> @Bool.rec (fun _=>V) (.tu [qmul a b c d f e,.nn .i64 0]) (.tu [.qq false 0 1,.nn .i64 3]) (Nat.beq e 0)) (fun x y=> .tu [rV (x/y),ofI .i64 (quoC y)]) hs (fun x y=>?_) (fun x y=>?_) fun x y=>⟨?_,by simp⟩
 ·cases hb:Nat.beq y.num.natAbs 0 with
  |true=>
   have:=q2m hb
   rw[Uj this,show quoC y=3 from if_pos this];rfl
  |false=>
   have:y.num.natAbs≠0:=fun e=>by rw[e]at hb;simp at hb
   simp only
   rw[J2 x y this,show quoC y=0 from if_neg this];rfl
 ·unfold quoC;split<;>rfl
 ·intro v hv
  simp only[q22,q2a,or_false]at hv
  rcases hv with rfl|rfl
  ·exact PU _
  ·unfold quoC;split<;>exact trivial
theorem YV{f:FuncId}(hs: ∀x y:Rat,Bnd .rat (.n 68719476736) x→Bnd .rat (.n 68719476736) y→Sig P f (argsE [.rat,.rat] (x,y)) (.c (.agg (qj .rat (x/y))))):qM D P f (qR .over):=by
 refine wO (h:=fun a b c d e f=> @Bool.rec (fun _=>V) (qmul a b c d f e) (.qq false 0 1) (Nat.beq e 0)) (fun x y=>rV (x/y)) hs (fun x y=>?_) (fun x y=>AP _) fun x y=>rV_k _
 cases hb:Nat.beq y.num.natAbs 0 with
 |true=>
  have:=q2m hb
  rw[Uj this];rfl
 |false=>
  have:y.num.natAbs≠0:=fun e=>by rw[e]at hb;simp at hb
  exact J2 x y this
theorem q0N{f:FuncId}(hs: ∀x:Rat,Bnd .rat (.n 68719476736) x→Sig P f (argsE [.rat] x) (.c (.agg (qj .rat (-x))))):qM D P f (qR .neg):=by
 refine Dk (h:=fun a b c=> @Bool.rec (fun _=>V) (.qq (!a) b c) (.qq false 0 1) (Nat.beq b 0)) (fun x=>rV (-x)) hs (fun x=>?_) (fun x=>AP _) fun x=>rV_k _
 cases hb:Nat.beq x.num.natAbs 0 with
 |true=>
  have:=q2m hb
  have:x=0:=Ur (by omega)
  subst this;rfl
 |false=>
  have:x.num.natAbs≠0:=fun e=>by rw[e]at hb;simp at hb
  unfold rV
  simp only[Rat.neg_num,Rat.neg_den,Int.natAbs_neg]
  congr 1
  by_cases h:x.num<0
  ·rw[decide_eq_true h,decide_eq_false (by omega)];rfl
  ·rw[decide_eq_false h,decide_eq_true (by omega)];rfl
theorem RA{f:FuncId}(hs: ∀x:Rat,Bnd .rat (.n 68719476736) x→Sig P f (argsE [.rat] x) (.c (.one (.val (.int .i64 (jk x)))))):qM D P f (qR .sign):=by
 refine Dk (h:=fun a b c=> @Bool.rec (fun _=>V) (@Bool.rec (fun _=>V) (.nn .i64 1) (.zz .i64 0) a) (.nn .i64 0) (Nat.beq b 0)) (fun x=>ofI .i64 (jk x)) hs (fun x=>?_) (fun x=>P7 _) fun x=>IN _
 unfold jk
 cases hb:Nat.beq x.num.natAbs 0 with
 |true=>rw[if_pos (q2m hb)];rfl
 |false=>
  have:x.num.natAbs≠0:=fun e=>by rw[e]at hb;simp at hb
  rw[if_neg this]
  by_cases h:x.num<0
  ·rw[decide_eq_true h,if_pos h];rfl
  ·rw[decide_eq_false h,if_neg h];rfl
theorem UX(x:Rat):(V.nn .i64 (Nat.max (Nat.add (Nat.log2 x.num.natAbs) 1) (Nat.add (Nat.log2 x.den) 1)))=ofI .i64 (max ((bl x.num.natAbs:Nat):Int) ((bl x.den:Nat):Int)):=by
 have hd:bl x.den=Nat.log2 x.den+1:=by unfold bl;rw[if_neg x.den_nz]
 have hn:bl x.num.natAbs=if x.num.natAbs=0 then 0 else Nat.log2 x.num.natAbs+1:=rfl
 have h0:x.num.natAbs=0→Nat.log2 x.num.natAbs=0:=fun h=>by rw[h];rfl
 have e1:Nat.max (Nat.add (Nat.log2 x.num.natAbs) 1) (Nat.add (Nat.log2 x.den) 1)=max (bl x.num.natAbs) (bl x.den):=by
  show max (Nat.log2 x.num.natAbs+1) (Nat.log2 x.den+1)=_
  rw[hn,hd]
  split
  ·rename_i h;have:=h0 h;omega
  ·rfl
 have e2:max ((bl x.num.natAbs:Nat):Int) ((bl x.den:Nat):Int)=((max (bl x.num.natAbs) (bl x.den):Nat):Int):=by omega
 rw[e1,e2];rfl
theorem YS{f:FuncId}(hs: ∀x:Rat,Bnd .rat (.n 68719476736) x→Sig P f (argsE [.rat] x) (.c (.one (.val (.int .i64 (max ((bl x.num.natAbs:Nat):Int) ((bl x.den:Nat):Int))))))):qM D P f (qR .bits):=
 Dk (h:=fun a b c=> .nn .i64 (Nat.max (Nat.add (Nat.log2 b) 1) (Nat.add (Nat.log2 c) 1))) (fun x=>ofI .i64 (max ((bl x.num.natAbs:Nat):Int) ((bl x.den:Nat):Int))) hs (fun x=>UX x) (fun x=>P7 _) fun x=>IN _
theorem W1{f:FuncId}(hs: ∀x:Rat,Bnd .rat (.n 68719476736) x→Sig P f (argsE [.rat] x) (.c (.one (.val (.bool true))))):qM D P f (qR .valid):=
 Dk (h:=fun a b c=> .bb true) (fun x=> .bb true) hs (fun x=>rfl) (fun x=>rfl) fun x=>⟨trivial,by simp⟩
theorem OO{n:Nat}(h:smB n=true):Bnd .mag (.n 1099511627776) n:=qb (by decide) (MC h)
theorem YX{f:FuncId}(hs: ∀x:Nat,Bnd .mag (.n 1099511627776) x→Sig P f (argsE [.mag] x) (.c (.one (.abs (natP x))))):qM D P f (qR .trim):=by
 intro vs s v s' hv hvs hsk
 have hv:(match vs with|[.mg n]=> @Bool.rec (fun _=>RO) (.no [35]) (.ok (.mg n) s) (smB n)|_=> .no [32])= .ok v s':=hv
 split at hv
 ·rename_i n _
  cases hb:smB n with
  |false=>rw[hb]at hv;cases hv
  |true=>
   rw[hb]at hv
   have hv:RO.ok (.mg n) s= .ok v s':=hv
   injection hv with h1 h2
   subst h1;subst h2
   exact ww (vs:=[.mg n]) (hs n (OO hb)) hsk trivial (by simp)
 ·cases hv
theorem VZ{f:FuncId}(hs: ∀x u:Nat,Bnd .mag (.n 1099511627776) x→Bnd (.nat .u32) (.n 4294967295) u→0<u→Sig P f (argsE [.mag,.nat .u32] (x,u)) (.tup [.one (.abs (natP (x/u))),.one (.val (.int .u32 ((x%u:Nat):Int)))])):qM D P f (qR .small):=by
 intro vs s v s' hv hvs hsk
 have hv:(match vs with|[.mg n,.nn .u32 u]=> @Bool.rec (fun _=>RO) (.no [33]) (.ok (.tu [.mg (Nat.div n u),.nn .u32 (Nat.mod n u)]) s) (smB n&&(Nat.blt 0 u&&Nat.blt u 4294967296))|_=> .no [34])= .ok v s':=hv
 split at hv
 ·rename_i n u _
  cases hb:(smB n&&(Nat.blt 0 u&&Nat.blt u 4294967296))with
  |false=>rw[hb]at hv;cases hv
  |true=>
   rw[hb]at hv
   simp only[q1A]at hb
   obtain⟨h1,h2,h3⟩:=hb
   have h2:0<u:=q2o h2
   have h3:u<4294967296:=q2o h3
   have hv:RO.ok (.tu [.mg (Nat.div n u),.nn .u32 (Nat.mod n u)]) s= .ok v s':=hv
   injection hv with h4 h5
   subst h4;subst h5
   refine ww (vs:=[.mg n,.nn .u32 u]) (hs n u (OO h1) (show u≤4294967295 by omega) h2) hsk ?_ (by simp)
   intro x hx
   simp only[q22,q2a,or_false]at hx
   rcases hx with rfl|rfl<;>exact trivial
 ·cases hv
theorem Uv{f:FuncId}(hs: ∀x:Rat,Bnd .rat (.n 68719476736) x→Sig P f (argsE [.rat] x) (.c (.agg (qj .rat x)))):qM D P f (qR .idq):=
 Dk (h:=fun a b c=> .qq a b c) (fun x=>rV x) hs (fun x=>rfl) (fun x=>AP _) fun x=>rV_k _
end
end
noncomputable section
section
variable {D:List Int} {P:Program}
theorem Dm{v:V}{a:Bool}{n:Nat}(h:qint v=some (a,n)): ∃z:Int,v=ofI .i64 z∧a=decide (z<0)∧n=z.natAbs∧Bnd (.int .i64) (.n 4611686018427387904) z:=by
 unfold qint at h
 split at h
 ·rename_i m
  cases hb:Nat.ble m 4611686018427387904 with
  |false=>rw[hb]at h;cases h
  |true=>
   rw[hb]at h
   have h:some (false,m)=some (a,n):=h
   injection h with h
   injection h with h1 h2
   subst h1;subst h2
   have:=q2o hb
   exact⟨(m:Int),rfl,(decide_eq_false (by omega)).symm,by simp,by show Int.natAbs (m:Int)≤_;simpa using this⟩
 ·rename_i m
  cases hb:Nat.blt m 4611686018427387904 with
  |false=>rw[hb]at h;cases h
  |true=>
   rw[hb]at h
   have h:some (true,m+1)=some (a,n):=h
   cases h
   have:m+1≤4611686018427387904:=q2o hb
   exact⟨Int.negSucc m,rfl,(decide_eq_true (Int.negSucc_lt_zero m)).symm,rfl,by show Int.natAbs (Int.negSucc m)≤_;simpa using this⟩
 ·cases h
theorem Zc(z:Int):rV (z:Rat)= .qq (decide (z<0)) z.natAbs 1:=by
 unfold rV
 rw[Rat.num_intCast,Rat.den_intCast]
theorem Ot{u v:Int}(hv:v.natAbs≠0):mkQ (xorB (decide (u<0)) (decide (v<0))) u.natAbs v.natAbs=rV ((u:Rat)/(v:Rat)):=by
 rw[←J2 (u:Rat) (v:Rat) (by rw[Rat.num_intCast];exact hv)]
 rw[Rat.num_intCast,Rat.den_intCast,Rat.num_intCast,Rat.den_intCast]
 unfold qmul
 show _=mkQ _ (u.natAbs*1) (1*v.natAbs)
 rw[Nat.mul_one,Nat.one_mul]
theorem Uw{f:FuncId}(hs: ∀z:Int,Bnd (.int .i64) (.n 4611686018427387904) z→Sig P f (argsE [.int .i64] z) (.c (.agg (qj .rat (z:Rat))))):qM D P f (qR .int):=by
 intro vs s v s' hv hvs hsk
 have hv:(match vs with|[v]=>(match qint v with|some (a,n)=>RO.ok (.qq a n 1) s|none=> .no [21])|_=> .no [22])= .ok v s':=hv
 split at hv
 ·split at hv
  ·rename_i u a n hq
   obtain⟨z,rfl,rfl,rfl,hb⟩:=Dm hq
   injection hv with h1 h2
   subst h1;subst h2
   have h:=hs z hb
   rw[AP (D:=D)]at h
   rw[←Zc]
   refine ww (vs:=[ofI .i64 z]) ?_ hsk (rV_k _).1 (rV_k _).2
   show Sig P f [qm D (ofI .i64 z)] _
   rw[←CZ];exact h
  ·cases hv
 ·cases hv
theorem YT{f:FuncId}(hs: ∀u v:Int,Bnd (.int .i64) (.n 4611686018427387904) u→Bnd (.int .i64) (.n 4611686018427387904) v→v≠0→Sig P f (argsE [.int .i64,.int .i64] (u,v)) (.c (.agg (qj .rat ((u:Rat)/(v:Rat)))))):qM D P f (qR .frac):=by
 intro vs s v s' hv hvs hsk
 have hv:(match vs with|[u,v]=>(match qint u,qint v with|some (a,n),some (b,m)=> @Bool.rec (fun _=>RO) (.ok (mkQ (xorB a b) n m) s) (.no [25]) (Nat.beq m 0)|_,_=> .no [23])|_=> .no [22])= .ok v s':=hv
 split at hv
 ·split at hv
  ·rename_i x y a n b m hq hq'
   obtain⟨z,rfl,rfl,rfl,hb⟩:=Dm hq
   obtain⟨z',rfl,rfl,rfl,hb'⟩:=Dm hq'
   cases h0:Nat.beq z'.natAbs 0 with
   |true=>rw[h0]at hv;cases hv
   |false=>
    rw[h0]at hv
    have hne:z'.natAbs≠0:=fun e=>by rw[e]at h0;simp at h0
    rw[Ot hne]at hv
    have hv:RO.ok (rV ((z:Rat)/(z':Rat))) s= .ok v s':=hv
    injection hv with h1 h2
    subst h1;subst h2
    have h:=hs z z' hb hb' (by omega)
    rw[AP (D:=D)]at h
    refine ww (vs:=[ofI .i64 z,ofI .i64 z']) ?_ hsk (rV_k _).1 (rV_k _).2
    show Sig P f [qm D (ofI .i64 z),qm D (ofI .i64 z')] _
    rw[←CZ,←CZ];exact h
  ·cases hv
 ·cases hv
theorem Ry{f:FuncId}(hs: ∀u v:Int,Bnd (.int .i64) (.n 4611686018427387904) u→Bnd (.int .i64) (.n 4611686018427387904) v→v≠0→Sig P f (argsE [.int .i64,.int .i64] (u,v)) (.tup [.agg (qj .rat ((u:Rat)/(v:Rat))),.one (.val (.int .i64 0))])):qM D P f (qR .make):=by
 intro vs s v s' hv hvs hsk
 have hv:(match vs with|[u,v]=>(match qint u,qint v with|some (a,n),some (b,m)=> @Bool.rec (fun _=>RO) (.ok (.tu [mkQ (xorB a b) n m,.nn .i64 0]) s) (.no [25]) (Nat.beq m 0)|_,_=> .no [23])|_=> .no [22])= .ok v s':=hv
 split at hv
 ·split at hv
  ·rename_i x y a n b m hq hq'
   obtain⟨z,rfl,rfl,rfl,hb⟩:=Dm hq
   obtain⟨z',rfl,rfl,rfl,hb'⟩:=Dm hq'
   cases h0:Nat.beq z'.natAbs 0 with
   |true=>rw[h0]at hv;cases hv
   |false=>
    rw[h0]at hv
    have hne:z'.natAbs≠0:=fun e=>by rw[e]at h0;simp at h0
    rw[Ot hne]at hv
    have hv:RO.ok (.tu [rV ((z:Rat)/(z':Rat)),.nn .i64 0]) s= .ok v s':=hv
    injection hv with h1 h2
    subst h1;subst h2
    have h:=hs z z' hb hb' (by omega)
    refine ww (vs:=[ofI .i64 z,ofI .i64 z']) ?_ hsk ?_ (by simp)
    ·show Sig P f [qm D (ofI .i64 z),qm D (ofI .i64 z')] _
     rw[←CZ,←CZ];exact h
    ·intro x hx
     simp only[q22,q2a,or_false]at hx
     rcases hx with rfl|rfl
     ·exact PU _
     ·exact trivial
  ·cases hv
 ·cases hv
end
end
noncomputable section
section
variable {D:List Int} {P:Program}
theorem SL {f : FuncId} {k : Key} {b b' : KB} {cs cs' : List Atom} {vs : List V} {v : V} {s s' : S} (hbk : mget s.m k = some b) (hb : b.blk D = .rigid cs) (hb' : b'.blk D = .rigid cs') (hc : ∀ n, jy n cs = false) (hc' : ∀ n, jy n cs' = false)
  (hargs : ∀ β β' H us, AVs β H (vs.map (qm D)) us → AVs β' H (vs.map (qm D)) us) (hv : ∀ β β' H u, (qm D v).sat β H u → (qm D v).sat β' H u) (hvok : v.ok) (hne : v ≠ .und) (hs' : SOK D s') (hm : s'.m = mset s.m k (some b')) (hnx : s'.nx = s.nx)
  (h : v4 P f (.c (.one (.loc 100000 0)) :: vs.map (qm D)) [(100000, .rigid cs)] (qm D v) [(100000, some (.rigid cs'))]) : CallOk D P f (.pp k 0 :: vs) s v s' := by
 have hold : ∀ q b2, mget s'.m q = some b2 → ∃ b1, mget s.m q = some b1 := fun q b2 hq => by
  rw [hm, v9] at hq
  by_cases e : k = q
  ·subst e; exact ⟨b, hbk⟩
  ·rw [if_neg e] at hq; exact ⟨b2, hq⟩
 refine ⟨h.1, hs', by rw [hnx]; exact q2r _, hvok, hne, fun q hq => .inl ?_, fun us w H β hargs0 hM hon hdom => ?_⟩
 ·cases hq2 : mget s'.m q with
  | none => exact absurd hq2 hq
  | some b2 => obtain ⟨b1, h1⟩ := hold q b2 hq2; rw [h1]; simp
 ·cases us with
  | nil => exact hargs0.elim
  | cons u0 ur =>
   obtain ⟨h0, h1⟩ := hargs0
   have h0 : ∃ bb c, β k.num = some (bb, c) ∧ u0 = .pointer (some ⟨bb, 0, none⟩) := h0
   obtain ⟨bb, c, hβ, rfl⟩ := h0
   have hr0 : (Blk.rigid cs).rep β w H k.num := by rw [← hb]; exact hM.rep k b hbk
   have e1 : ∀ β1 : Bm, β1 100000 = β k.num → (Blk.rigid cs).rep β1 w H 100000 := fun β1 e => by
    obtain ⟨b0, c0, arr, T, r1, r2, r3⟩ := hr0
    exact ⟨b0, c0, arr, T, e.trans r1, r2, Sats.congr (Heap.Le.refl _) (fun k' hk => by rw [hc] at hk; cases hk) r3⟩
   have hcall := h.2 (.pointer (some ⟨bb, 0, none⟩) :: ur) w H (fun n => if n = 100000 then β k.num else none) ⟨⟨bb, c, by simp [hβ], rfl⟩, hargs _ _ _ _ h1⟩
    (fun p hp => by
     simp only [q22, q2a, or_false] at hp
     subst hp
     refine ⟨e1 _ (by simp), fun b0 c0 h0 => ?_⟩
     simp only [if_true] at h0
     exact hM.own k b hbk b0 c0 h0)
    (fun p hp p' hp' hne => by
     simp only [q22, q2a, or_false] at hp hp'
     subst hp; subst hp'; exact absurd rfl hne) hon
   refine Calls.mono hcall ?_
   rintro e w' ⟨u, H', β', rfl, hst, hsat, hblk⟩
   have hkn : qw [(100000, Blk.rigid cs)] [(100000, some (Blk.rigid cs'))] = [] := rfl
   have hkw : kwOf [(100000, Blk.rigid cs)] [(100000, some (Blk.rigid cs'))] = [100000] := rfl
   have hβ' : β' 100000 = β k.num := by
    have h0 : (100000 : Nat) ∉ qw [(100000, Blk.rigid cs)] [(100000, some (Blk.rigid cs'))] := by rw [hkn]; exact q2a
    rw [hst.beta 100000 h0]; exact if_pos rfl
   have hkeep : ∀ b0, b0 < w.heap.size → (∀ c0, β k.num ≠ some (b0, c0)) → w'.heap[b0]? = w.heap[b0]? := fun b0 hb0 h0 => hst.keep b0 hb0 fun k0 hk0 c0 => by
    rw [hkw] at hk0
    simp only [q22, q2a, or_false] at hk0
    subst hk0
    simp only [if_true]; exact h0 c0
   have hr1 : (Blk.rigid cs').rep β w' H' k.num := by
    obtain ⟨b0, c0, arr, T, r1, r2, r3⟩ := hblk 100000 (Blk.rigid cs') q24
    exact ⟨b0, c0, arr, T, hβ'.symm.trans r1, r2, Sats.congr (Heap.Le.refl _) (fun k' hk => by rw [hc'] at hk; cases hk) r3⟩
   refine ⟨u, H', β, rfl, ⟨hst.os, hst.tape, hst.output, hst.size, fun b0 hb0 hk0 => hkeep b0 hb0 fun c0 => hk0 k (by rw [hbk]; simp) c0, hst.hle, hst.hnew, hst.hon, fun q _ => rfl, fun q b2 hq bb0 c0 hβ0 => .inr ?_⟩, hv _ _ _ _ hsat, ⟨fun q b2 hq => ?_, fun q b2 hq bb0 c0 hβ0 => ?_, fun q q' b2 b3 hq hq' hne => ?_⟩⟩
   ·obtain ⟨b1, h1⟩ := hold q b2 hq
    exact ⟨q, by rw [h1]; simp, c0, hβ0⟩
   ·by_cases e : k = q
    ·subst e
     rw [hm, ES] at hq
     cases hq
     rw [hb']; exact hr1
    ·rw [hm, IU _ _ e] at hq
     refine Blk.rep_congr (hM.rep q b2 hq) hst.hle (fun _ _ => rfl) fun b0 c0 h0 => hkeep b0 (hM.own q b2 hq b0 c0 h0).2 fun c1 h1 => ?_
     exact hM.inj k q b b2 hbk hq e b0 c1 c0 h1 h0
   ·obtain ⟨b1, h1⟩ := hold q b2 hq
    obtain ⟨h2, h3⟩ := hM.own q b1 h1 bb0 c0 hβ0
    refine ⟨?_, q2u h3 hst.size⟩
    cases hH : H' bb0 with
    | none => rfl
    | some cs0 =>
     rcases hst.hnew bb0 (by rw [hH]; simp) with h4 | h4
     ·exact absurd h2 h4
     ·omega
   ·obtain ⟨b4, h4⟩ := hold q b2 hq
    obtain ⟨b5, h5⟩ := hold q' b3 hq'
    exact hM.inj q q' b4 b5 h4 h5 hne
def DOk(D:List Int):Prop:=D.length≤1048576∧ ∀z∈D,Int.natAbs z≤9223372036854775808
theorem DI: ∀D:List Int,D.flatMap (cellsC (.int .i64))=diC D
 |[]=>rfl
 |z::r=>by
  rw[q1L,DI r];rfl
theorem Gu(D:List Int):argC (.sl (.int .i64)) D=qm D .dl:=by
 show AV.c (.one (.abs (flP (D.flatMap (cellsC (.int .i64))) D.length)))=AV.c (.one (.abs (diP D)))
 rw[DI];rfl
theorem VY{f:FuncId}(hs:Sig P f (argsE [.sl (.int .i64)] D) (.c (.one (.val (.bool (decide (D.length≤500))))))):qM D P f (qR (.light (decide (D.length≤500)))):=by
 intro vs s v s' hv hvs hsk
 have hv:(match(generalizing:=false) vs with|[.dl]=>RO.ok (.bb (decide (D.length≤500))) s|_=> .no [26])=RO.ok v s':=hv
 split at hv
 ·injection hv with h1 h2
  subst h1;subst h2
  refine ww (vs:=[.dl]) ?_ hsk trivial (by simp)
  show Sig P f [qm D .dl] _
  rw[←Gu];exact hs
 ·cases hv
theorem Rw(D:List Int)(j n:Nat)(hn:0<n):(if D.length≤min j D.length then(0:Int)else D.getD (min j D.length) 0%(n:Int))=((outc D j n:Nat):Int):=by
 unfold outc
 by_cases h:D.length≤j
 ·rw[if_pos (by omega),q1R h];rfl
 ·have hj:j<D.length:=by omega
  rw[if_neg (by omega),show min j D.length=j by omega,q1Q hj,q1M,q1Q hj]
  show D[j]%(n:Int)=(((D[j]%(n:Int)).toNat:Nat):Int)
  have:=Int.emod_nonneg D[j] (show(n:Int)≠0 by omega)
  omega
theorem YU{f:FuncId}(hD:DOk D)(hs: ∀(l:List Int)(j:Nat)(m:Int),DOk l→j≤l.length→0<m→Bnd (.int .i64) (.n 1099511627776) m→
   v4 P f (.c (.one (.loc 100000 0))::argsE [.int .i64] m) [(100000,.rigid (qj (.pr (.sl (.int .i64)) (.nat .i64)) (l,j)))] (.c (.one (.val (.int .i64 (if l.length≤j then(0:Int)else l.getD j 0%m)))))
    [(100000,some (.rigid (qj (.pr (.sl (.int .i64)) (.nat .i64)) (if l.length≤j then(l,j)else(l,j+1)))))]):qM D P f (qR .next):=by
 have cells: ∀j:Nat,qj (.pr (.sl (.int .i64)) (.nat .i64)) (D,j)=[.abs (diP D),.val (.int .i64 ((j:Nat):Int))]:=fun j=>by
  show[Atom.abs (flP (D.flatMap (cellsC (.int .i64))) D.length),.val (.int .i64 ((j:Nat):Int))]=_
  rw[DI];rfl
 intro vs s v s' hv hvs hsk
 have hv:(match(generalizing:=false) vs with
  |[.pp k 0,.nn .i64 n]=> @S.rec (fun _=>RO) (fun m nx dn sc=>match(generalizing:=false) mget m k with
   |some (.di j)=> @Bool.rec (fun _=>RO) (.no [28]) (match(generalizing:=false) sc with
    |[]=> .need n
    |(n',x)::r=> @Bool.rec (fun _=>RO) (.no [29]) (.ok (.nn .i64 x) ⟨mset m k (some (.di (Nat.succ j))),nx,Nat.succ dn,r⟩) (Nat.beq n n')) (Nat.beq j dn&&(Nat.blt 0 n&&Nat.blt n 1099511627776))
   |_=> .no [30]) s
  |_=> .no [31])= .ok v s':=hv
 split at hv
 ·rename_i k n _
  obtain⟨m,nx,dn,sc⟩:=s
  have hv:(match(generalizing:=false) mget m k with
   |some (.di j)=> @Bool.rec (fun _=>RO) (.no [28]) (match(generalizing:=false) sc with
    |[]=> .need n
    |(n',x)::r=> @Bool.rec (fun _=>RO) (.no [29]) (.ok (.nn .i64 x) ⟨mset m k (some (.di (Nat.succ j))),nx,Nat.succ dn,r⟩) (Nat.beq n n')) (Nat.beq j dn&&(Nat.blt 0 n&&Nat.blt n 1099511627776))
   |_=> .no [30])= .ok v s':=hv
  split at hv
  ·rename_i j hk
   cases hb:(Nat.beq j dn&&(Nat.blt 0 n&&Nat.blt n 1099511627776))with
   |false=>rw[hb]at hv;cases hv
   |true=>
    rw[hb]at hv
    simp only[q1A]at hb
    obtain⟨h1,h2,h3⟩:=hb
    have h1:j=dn:=q2m h1
    have h2:0<n:=q2o h2
    have h3:n<1099511627776:=q2o h3
    subst h1
    cases sc with
    |nil=>cases hv
    |cons q r=>
     obtain⟨n',x⟩:=q
     have hv: @Bool.rec (fun _=>RO) (.no [29]) (.ok (.nn .i64 x) ⟨mset m k (some (.di (Nat.succ j))),nx,Nat.succ j,r⟩) (Nat.beq n n')= .ok v s':=hv
     cases hn:Nat.beq n n' with
     |false=>rw[hn]at hv;cases hv
     |true=>
      rw[hn]at hv
      have hv3:RO.ok (.nn .i64 x) ⟨mset m k (some (.di (Nat.succ j))),nx,Nat.succ j,r⟩= .ok v s':=hv
      injection hv3 with g1 g2
      subst g1;subst g2
      have:=q2m hn
      subst this
      have hx:outc D j n=x:=hsk.agr 0 (n,x) rfl
      have hs2:SOK D ⟨mset m k (some (.di (Nat.succ j))),nx,Nat.succ j,r⟩:=by
       refine⟨fun q b hq=>?_,fun q hq=>?_,fun i p hp=>?_⟩
       ·have hq:mget (mset m k (some (.di (Nat.succ j)))) q=some b:=hq
        rw[v9]at hq
        split at hq
        ·cases hq;exact trivial
        ·exact hsk.ok q b hq
       ·have hq:mget (mset m k (some (.di (Nat.succ j)))) q≠none:=hq
        rw[v9]at hq
        split at hq
        ·rename_i e;subst e;exact hsk.lt k (show mget m k≠none by rw[hk];simp)
        ·exact hsk.lt q hq
       ·have:=hsk.agr (i+1) p hp
        rw[←this]
        show outc D (j+1+i) p.1=outc D (j+(i+1)) p.1
        rw[show j+1+i=j+(i+1) by omega]
      have hsg:=hs D (min j D.length) (n:Int) hD (Nat.min_le_right _ _) (by omega) (by show Int.natAbs (n:Int)≤_;simp;omega)
      have hn2:(if D.length≤min j D.length then(D,min j D.length)else(D,min j D.length+1))=((D,min (j+1) D.length):List Int×Nat):=by
       by_cases h:D.length≤j
       ·rw[if_pos (by omega),show min j D.length=min (j+1) D.length by omega]
       ·rw[if_neg (by omega),show min j D.length+1=min (j+1) D.length by omega]
      rw[Rw D j n h2,hx,hn2,cells,cells]at hsg
      refine SL (s:=⟨m,nx,j,(n,x)::r⟩) (b:= .di j) (b':= .di (j+1)) (vs:=[.nn .i64 n]) (v:= .nn .i64 x) hk rfl rfl (fun _=>rfl) (fun _=>rfl) (fun β β' H us h=>?_) (fun β β' H u h=>h) trivial (by simp) hs2 rfl rfl hsg
      match us,h with
      |[],h=>exact h.elim
      |[u],⟨h1,h2⟩=>exact⟨h1,h2⟩
      |_::_::_,⟨_,h⟩=>exact h.elim
  ·cases hv
 ·cases hv
theorem TI{β:Bm}{w:World}{H:Heap}{k:Nat}{x:Blk}{b0 c0:Nat}(h:x.rep β w H k)(h0:β k=some (b0,c0)):b0<w.heap.size:=by
 cases x with
 |rigid cs=>
  obtain⟨b1,c1,arr,T,h1,h2,_⟩:=h
  rw[h0]at h1;cases h1;exact(Array.getElem?_eq_some_iff.1 h2).1
 |grow es cs=>
  rcases h with⟨h1,_⟩|⟨b1,c1,arr,T,h1,h2,_⟩
  ·rw[h0]at h1;cases h1
  ·rw[h0]at h1;cases h1;exact(Array.getElem?_eq_some_iff.1 h2).1
 |mp l=>
  obtain⟨b1,c1,h1,h2⟩:=h
  rw[h0]at h1;cases h1;exact(Array.getElem?_eq_some_iff.1 h2).1
theorem Tz{f:FuncId}{k':Key}{b:KB}{vs:List V}{s s':S}(hsucc:s.nx.succ=some k')(hbok:b.ok)(hagr:AgrS D s')(hm:s'.m=mset s.m s.nx (some b))(hnx:s'.nx=k')
  (h:v4 P f (vs.map (qm D)) [] (qm D (.pp s.nx 0)) [(s.nx.num,some (b.blk D))])(hs:SOK D s):CallOk D P f vs s (.pp s.nx 0) s':=by
 have hnum:=Key.succ_num hsucc
 have hget: ∀q,mget s'.m q=if s.nx=q then some b else mget s.m q:=fun q=>by rw[hm,v9]
 have hs':SOK D s':=by
  refine⟨fun q b2 hq=>?_,fun q hq=>?_,hagr⟩
  ·rw[hget]at hq
   split at hq
   ·cases hq;exact hbok
   ·exact hs.ok q b2 hq
  ·rw[hget]at hq
   rw[hnx,hnum]
   split at hq
   ·rename_i e;rw[←e];omega
   ·have:=hs.lt q hq;omega
 refine⟨h.1,hs',by rw[hnx,hnum];omega,trivial,by simp,fun q hq=>?_,fun us w H β hargs hM hon hdom=>?_⟩
 ·rw[hget]at hq
  split at hq
  ·rename_i e;rw[←e];exact .inr (q2r _)
  ·exact .inl hq
 ·refine Calls.mono (h.2 us w H β hargs (fun p hp=>by simp at hp) (fun p hp=>by simp at hp) hon) ?_
  rintro e w' ⟨u,H',β',rfl,hst,hsat,hblk⟩
  have hkn:qw [] [(s.nx.num,some (b.blk D))]=[s.nx.num]:=rfl
  have hkw:kwOf [] [(s.nx.num,some (b.blk D))]=[]:=rfl
  have hkd:jn [(s.nx.num,some (b.blk D))]=[]:=rfl
  rw[hkn,hkw,hkd]at hst
  have hb: ∀n,n≠s.nx.num→β' n=β n:=fun n hn=>hst.beta n (by simpa using hn)
  have hq0: ∀q,mget s.m q≠none→q.num≠s.nx.num:=fun q hq=>Nat.ne_of_lt (hs.lt q hq)
  have hnone:β s.nx.num=none:=hdom _ (q2r _) (by rw[hnx,hnum];omega)
  have hkeep: ∀b0,b0<w.heap.size→w'.heap[b0]?=w.heap[b0]?:=fun b0 hb0=>hst.keep b0 hb0 fun k0 hk0=>by simp at hk0
  have hnew: ∀b0 c0,β' s.nx.num=some (b0,c0)→H' b0=none∧w.heap.size≤b0:=fun b0 c0 h0=>by
   obtain⟨h1,h2⟩:=hst.fresh s.nx.num (by simp) b0 c0 h0
   refine⟨h1,?_⟩
   rcases h2 with h2|⟨k0,h2,_⟩
   ·exact h2
   ·simp at h2
  have hold: ∀q b2,mget s.m q=some b2→ ∀bb c,β q.num=some (bb,c)→H' bb=none∧bb<w.heap.size:=fun q b2 hq bb c h0=>by
   obtain⟨h1,h2⟩:=hM.own q b2 hq bb c h0
   refine⟨?_,h2⟩
   cases hH:H' bb with
   |none=>rfl
   |some cs0=>
    rcases hst.hnew bb (by rw[hH];simp)with h4|h4
    ·exact absurd h1 h4
    ·omega
  have hsize: ∀b0 c0,β' s.nx.num=some (b0,c0)→b0<w'.heap.size:=fun b0 c0 h0=>by
   have hr:(b.blk D).rep β' w' H' s.nx.num:=hblk s.nx.num (b.blk D) q24
   exact TI hr h0
  refine⟨u,H',β',rfl,⟨hst.os,hst.tape,hst.output,hst.size,fun b0 hb0 _=>hkeep b0 hb0,hst.hle,hst.hnew,hst.hon,fun n hn=>hb n (by rw[hnx,hnum]at hn;omega),fun q b2 hq bb c h0=>?_⟩,hsat,⟨fun q b2 hq=>?_,fun q b2 hq bb c h0=>?_,fun q q' b2 b3 hq hq' hne bb c c' h0 h1=>?_⟩⟩
  ·rw[hget]at hq
   split at hq
   ·rename_i e;subst e;exact .inl (hnew bb c h0).2
   ·rw[hb _ (hq0 q (by rw[hq];simp))]at h0
    exact .inr ⟨q,by rw[hq];simp,c,h0⟩
  ·rw[hget]at hq
   split at hq
   ·rename_i e;subst e;cases hq
    exact hblk _ _ q24
   ·have hr:=hM.rep q b2 hq
    refine Blk.rep_congr hr hst.hle (fun n hn=>?_) fun b0 c0 h0=>hkeep b0 (hM.own q b2 hq b0 c0 h0).2
    refine hb n fun e=>?_
    subst e
    rcases hn with hn|hn
    ·exact hq0 q (by rw[hq];simp) hn.symm
    ·exact(Fx (D:=D) b2 0).2.1 β w H q.num _ hr hn hnone
  ·rw[hget]at hq
   split at hq
   ·rename_i e;subst e;exact⟨(hnew bb c h0).1,hsize bb c h0⟩
   ·rw[hb _ (hq0 q (by rw[hq];simp))]at h0
    obtain⟨h2,h3⟩:=hold q b2 hq bb c h0
    exact⟨h2,q2u h3 hst.size⟩
  ·rw[hget]at hq hq'
   split at hq
   ·rename_i e;subst e
    rw[if_neg hne]at hq'
    rw[hb _ (hq0 q' (by rw[hq'];simp))]at h1
    have:=(hold q' b3 hq' bb c' h1).2
    have:=(hnew bb c h0).2
    omega
   ·rename_i e
    rw[hb _ (hq0 q (by rw[hq];simp))]at h0
    split at hq'
    ·rename_i e2;subst e2
     have:=(hold q b2 hq bb c h0).2
     have:=(hnew bb c' h1).2
     omega
    ·rw[hb _ (hq0 q' (by rw[hq'];simp))]at h1
     exact hM.inj q q' b2 b3 hq hq' hne bb c c' h0 h1
theorem YW{f:FuncId}(hD:DOk D)(hs: ∀(d:Nat)(l:List Int),DOk l→v4 P f (argsE [.sl (.int .i64)] l) [] (.c (.one (.loc d 0))) [(d,some (.rigid (qj (.pr (.sl (.int .i64)) (.nat .i64)) (l,0))))]):qM D P f (qR .roll):=by
 intro vs s v s' hv hvs hsk
 have hv:(match(generalizing:=false) vs with|[.dl]=> @S.rec (fun _=>RO) (fun m nx dn sc=>putK m nx dn sc (.pp nx 0) (.di 0)) s|_=> .no [27])=RO.ok v s':=hv
 split at hv
 ·obtain⟨m,nx,dn,sc⟩:=s
  have hv2:putK m nx dn sc (.pp nx 0) (.di 0)=RO.ok v s':=hv
  unfold putK at hv2
  split at hv2
  ·rename_i k' hk'
   injection hv2 with h1 h2
   subst h1;subst h2
   have h:=hs nx.num D hD
   have hc:qj (.pr (.sl (.int .i64)) (.nat .i64)) (D,0)=[.abs (diP D),.val (.int .i64 ((min 0 D.length:Nat):Int))]:=by
    rw[Nat.zero_min]
    show[Atom.abs (flP (D.flatMap (cellsC (.int .i64))) D.length),.val (.int .i64 ((0:Nat):Int))]=_
    rw[DI];rfl
   rw[hc]at h
   refine Tz (s:=⟨m,nx,dn,sc⟩) (b:= .di 0) (vs:=[.dl]) hk' trivial hsk.agr rfl rfl ?_ hsk
   show v4 P f [qm D .dl] _ _ _
   rw[←Gu];exact h
  ·cases hv2
 ·cases hv
end
end
noncomputable section
section
variable {D:List Int} {P:Program}
theorem Wl{f:FuncId}{vs:List V}{args:List AV}{v:V}{s:S}(hs:SOK D s)(hv:v.ok)(hne:v≠ .und)(hp: ∀β β' H H' u,(qm D v).sat β H u→(qm D v).sat β' H' u)
  (hext: ∀us w H β,AVs β H (vs.map (qm D)) us→MRep D s.m w H β→Heap.On H w→ ∃H1,Heap.On H1 w∧AVs β H1 args us)
  (h:Sig P f args (qm D v)):CallOk D P f vs s v s:=by
 refine⟨h.1,hs,q2r _,hv,hne,fun k hk=> .inl hk,fun us w H β hargs hM hon hdom=>?_⟩
 obtain⟨H1,h1,h2⟩:=hext us w H β hargs hM hon
 refine Calls.mono (h.2 us w H1 β h2 (fun p hp=>by simp at hp) (fun p hp=>by simp at hp) h1) ?_
 rintro e w' ⟨u,H',β',rfl,hst,hsat,_⟩
 have hkeep: ∀b,b<w.heap.size→w'.heap[b]?=w.heap[b]?:=fun b hb=>hst.keep b hb fun k hk=>by simp[kwOf]at hk
 refine⟨u,H,β,rfl,⟨hst.os,hst.tape,hst.output,hst.size,fun b hb _=>hkeep b hb,Heap.Le.refl _,fun b hb=> .inl hb,fun b cs hb=>?_,fun k _=>rfl,fun k b hb bb c hβ=> .inr ⟨k,by rw[hb];simp,c,hβ⟩⟩,hp _ _ _ _ _ hsat,⟨fun k b hb=>?_,fun k b hb bb c hβ=>?_,hM.inj⟩⟩
 ·obtain⟨T,fz,e⟩:=hon b cs hb
  exact⟨T,fz,by rw[hkeep b (hon.lt (by rw[hb];simp))];exact e⟩
 ·exact Blk.rep_congr (hM.rep k b hb) (Heap.Le.refl _) (fun _ _=>rfl) (fun bb c hβ=>hkeep bb (hM.own k b hb bb c hβ).2)
 ·obtain⟨h3,h4⟩:=hM.own k b hb bb c hβ
  exact⟨h3,q2u h4 hst.size⟩
theorem QF{f:FuncId}{vs:List V}{v:V}{s:S}{nx:Key}{s1:S}(h:CallOk D P f vs ⟨mnew,nx,0,[]⟩ v s1)(hs:SOK D s)(hp: ∀β β' H H' u,(qm D v).sat β H u→(qm D v).sat β' H' u)
  (ha: ∀β β' H us,AVs β H (vs.map (qm D)) us→AVs β' H (vs.map (qm D)) us):CallOk D P f vs s v s:=by
 refine⟨h.callable,hs,q2r _,h.ok,h.ne,fun k hk=> .inl hk,fun us w H β hargs hM hon hdom=>?_⟩
 refine Calls.mono (h.calls us w H (fun _=>none) (ha _ _ _ _ hargs) ⟨fun k b hb=>?_,fun k b hb=>?_,fun k k' b b' hb=>?_⟩ hon fun _ _ _=>rfl) ?_
 ·have hb:mget mnew k=some b:=hb
  rw[A9]at hb;cases hb
 ·have hb:mget mnew k=some b:=hb
  rw[A9]at hb;cases hb
 ·have hb:mget mnew k=some b:=hb
  rw[A9]at hb;cases hb
 rintro e w' ⟨u,H',β',rfl,hst,hsat,_⟩
 have hkeep: ∀b,b<w.heap.size→w'.heap[b]?=w.heap[b]?:=fun b hb=>hst.keep b hb fun k hk=>absurd (A9 k) hk
 refine⟨u,H,β,rfl,⟨hst.os,hst.tape,hst.output,hst.size,fun b hb _=>hkeep b hb,Heap.Le.refl _,fun b hb=> .inl hb,fun b cs hb=>?_,fun k _=>rfl,fun k b hb bb c hβ=> .inr ⟨k,by rw[hb];simp,c,hβ⟩⟩,hp _ _ _ _ _ hsat,⟨fun k b hb=>?_,fun k b hb bb c hβ=>?_,hM.inj⟩⟩
 ·obtain⟨T,fz,e⟩:=hon b cs hb
  exact⟨T,fz,by rw[hkeep b (hon.lt (by rw[hb];simp))];exact e⟩
 ·exact Blk.rep_congr (hM.rep k b hb) (Heap.Le.refl _) (fun _ _=>rfl) (fun bb c hβ=>hkeep bb (hM.own k b hb bb c hβ).2)
 ·obtain⟨h3,h4⟩:=hM.own k b hb bb c hβ
  exact⟨h3,q2u h4 hst.size⟩
theorem q0O{f:FuncId}{nx:Key}{s1:S}(h:CallOk D P f [] ⟨mnew,nx,0,[]⟩ (.bb true) s1):qM D P f (qR .tru):=by
 intro vs s v s' hv hvs hsk
 have hv:(match(generalizing:=false) vs with|[]=>RO.ok (.bb true) s|_=> .no [39])=RO.ok v s':=hv
 split at hv
 ·injection hv with h1 h2
  subst h1;subst h2
  exact QF h hsk (fun β β' H H' u h=>h) (fun β β' H us h=>by
   match us,h with
   |[],_=>exact trivial
   |_::_,h=>exact h.elim)
 ·cases hv
def triT(v:V):Int×(Int×Int):=match v with
 | .ag _ [.nn _ x,.nn _ y,.nn _ z]=>((x:Int),((y:Int),(z:Int)))
 |_=>(0,(0,0))
abbrev tTri:Ty:= .pr (.int .i64) (.pr (.int .i64) (.int .i64))
abbrev bTri:Bd:= .p (.n 1048576) (.p (.n 1048576) (.n 1048576))
theorem Fi{v:V}(h:triB v=true):v.cells D=qj tTri (triT v)∧Bnd tTri bTri (triT v)∧ ∃w x y z,v= .ag w [.nn .i64 x,.nn .i64 y,.nn .i64 z]:=by
 unfold triB at h
 split at h
 ·rename_i w x y z
  simp only[q1A]at h
  obtain⟨h1,h2,h3⟩:=h
  exact⟨rfl,⟨q2o h1,q2o h2,q2o h3⟩,w,x,y,z,rfl⟩
 ·cases h
theorem CJ: ∀{L:List V},B1 L=true→ ∀v∈L,triB v=true
 |[],_,v,hv=>by cases hv
 |x::r,h,v,hv=>by
  have h: @Bool.rec (fun _=>Bool) false (B1 r) (triB x)=true:=h
  cases hb:triB x with
  |false=>rw[hb]at h;cases h
  |true=>
   rw[hb]at h
   rcases q22.1 hv with rfl|hv
   ·exact hb
   ·exact CJ (L:=r) h v hv
theorem MJ: ∀{L:List V},B1 L=true→flat D L=j6 tTri (L.map triT)
 |[],_=>rfl
 |x::r,h=>by
  have hx:=CJ h x q24
  have h: @Bool.rec (fun _=>Bool) false (B1 r) (triB x)=true:=h
  rw[hx]at h
  have ih:=MJ (L:=r) h
  unfold flat j6 at ih⊢
  rw[q1L,q20,q1L,ih,(Fi (D:=D) hx).1]
theorem IL(a b x y:Nat)(k:Nat→Nat)(acc:Nat):hitK a b x y k acc=k (acc+eL1 (x:Int) (y:Int) (a:Int) (b:Int)):=by
 unfold hitK eL1
 by_cases h1:x=a
 ·subst h1
  rw[Nat.beq_refl]
  by_cases h2:y=b
  ·subst h2;rw[Nat.beq_refl,if_pos ⟨rfl,rfl⟩]
  ·rw[show Nat.beq y b=false from by cases hb:Nat.beq y b with
    |false=>rfl
    |true=>exact absurd (q2m hb) h2,if_neg (fun e=>h2 (by exact_mod_cast e.2))];rfl
 ·rw[show Nat.beq x a=false from by cases hb:Nat.beq x a with
   |false=>rfl
   |true=>exact absurd (q2m hb) h1,if_neg (fun e=>h1 (by exact_mod_cast e.1))];rfl
theorem K8(x:Int×(Int×Int))(l:List (Int×(Int×Int)))(a b:Int): ∀n,jq (x::l) a b (n+1)=eL1 x.1 x.2.1 a b+eL1 x.2.1 x.2.2 a b+eL1 x.2.2 x.1 a b+jq l a b n
 |0=>by
  show 0+_+_+_=_+0
  simp only[triL,List.getD_cons_zero];omega
 |n+1=>by
  rw[jq,K8 x l a b n,jq]
  simp only[triL,List.getD_cons_succ];omega
theorem OQ(a b:Nat): ∀{L:List V},B1 L=true→ ∀acc,timV a b L acc=acc+jq (L.map triT) a b L.length
 |[],_,acc=>rfl
 |x::r,h,acc=>by
  have hx:=CJ h x q24
  have h1: @Bool.rec (fun _=>Bool) false (B1 r) (triB x)=true:=h
  rw[hx]at h1
  have ih:=OQ a b (L:=r) h1
  obtain⟨_,_,w,p,q,z,e⟩:=Fi (D:=[]) hx
  subst e
  rw[q20,q1V,K8]
  show hitK a b p q (hitK a b q z (hitK a b z p (timV a b r))) acc=_
  rw[IL,IL,IL,ih]
  show _=acc+(eL1 (p:Int) (q:Int) a b+eL1 (q:Int) (z:Int) a b+eL1 (z:Int) (p:Int) a b+_)
  omega
theorem W0{f:FuncId}(hs: ∀(l:List (Int×(Int×Int)))(a b:Int),Bnd (.sl tTri) (.s 4096 bTri) l→Bnd (.int .i64) (.n 1048576) a→Bnd (.int .i64) (.n 1048576) b→
   Sig P f [.c (.agg [.abs unP,.abs (flP (j7 tTri l) l.length),.abs unP]),.c (.one (.val (.int .i64 a))),.c (.one (.val (.int .i64 b)))] (.c (.one (.val (.int .i64 ((jq l a b l.length:Nat):Int)))))):qM D P f (qR .times):=by
 intro vs s v s' hv hvs hsk
 have hv:(match(generalizing:=false) vs with
  |[.ag _ [x,.gs k 0 n _,y],.nn .i64 a,.nn .i64 b]=> @S.rec (fun _=>RO) (fun m nx dn sc=>match(generalizing:=false) mget m k with
   |some (.gro es N t)=> @Bool.rec (fun _=>RO) (.no [36]) (.ok (.nn .i64 (timV a b (Sq.toL .und t 0 n) 0)) (S.mk m nx dn sc)) (x.on&&y.on&&(Nat.ble n N&&Nat.ble n 4096)&&(Nat.ble a 1048576&&Nat.ble b 1048576)&&B1 (Sq.toL .und t 0 n))
   |_=> .no [37]) s
  |_=> .no [38])=RO.ok v s':=hv
 split at hv
 ·rename_i w0 x k n w1 y a b _
  obtain⟨m,nx,dn,sc⟩:=s
  have hv:(match(generalizing:=false) mget m k with
   |some (.gro es N t)=> @Bool.rec (fun _=>RO) (.no [36]) (.ok (.nn .i64 (timV a b (Sq.toL .und t 0 n) 0)) (S.mk m nx dn sc)) (x.on&&y.on&&(Nat.ble n N&&Nat.ble n 4096)&&(Nat.ble a 1048576&&Nat.ble b 1048576)&&B1 (Sq.toL .und t 0 n))
   |_=> .no [37])=RO.ok v s':=hv
  split at hv
  ·rename_i es N t hk
   cases hb:(x.on&&y.on&&(Nat.ble n N&&Nat.ble n 4096)&&(Nat.ble a 1048576&&Nat.ble b 1048576)&&B1 (Sq.toL .und t 0 n))with
   |false=>rw[hb]at hv;cases hv
   |true=>
    rw[hb]at hv
    have hv2:RO.ok (.nn .i64 (timV a b (Sq.toL .und t 0 n) 0)) (S.mk m nx dn sc)=RO.ok v s':=hv
    injection hv2 with g1 g2
    simp only[q1A]at hb
    obtain⟨⟨⟨⟨hx,hy⟩,hn,hn2⟩,ha,hb2⟩,ht⟩:=hb
    have hn:=q2o hn
    have hn2:=q2o hn2
    have ha:=q2o ha
    have hb2:=q2o hb2
    have hlen:(Sq.toL .und t 0 n).length=n:=Sq.toL_len _ _ _ _
    have e1:=OQ a b ht 0
    rw[q2N,hlen]at e1
    have hmap:((Sq.toL .und t 0 n).map triT).length=n:=by rw[q1X,hlen]
    have hbnd:Bnd (.sl tTri) (.s 4096 bTri) ((Sq.toL .und t 0 n).map triT):=⟨by rw[hmap];exact hn2,fun q hq=>by
     obtain⟨z,hz,rfl⟩:=List.mem_map.1 hq
     exact(Fi (D:=[]) (CJ ht z hz)).2.1⟩
    have hsg:=hs _ (a:Int) (b:Int) hbnd (show Int.natAbs (a:Int)≤_ by simpa using ha) (show Int.natAbs (b:Int)≤_ by simpa using hb2)
    rw[hmap,←e1]at hsg
    subst g1;subst g2
    refine Wl (s:=⟨m,nx,dn,sc⟩) hsk trivial (by simp) (fun β β' H H' u h=>h) (fun us w H β hargs hM hon=>?_) hsg
    match us,hargs with
    |[],h=>exact h.elim
    |[_],⟨_,h⟩=>exact h.elim
    |[_,_],⟨_,_,h⟩=>exact h.elim
    |[u0,u1,u2],⟨h0,h1,h2,_⟩=>
     have h0: ∃arr:Array Value,u0= .agg arr∧Sats β H (cs D [x,.gs k 0 n w1,y]) arr.toList:=h0
     obtain⟨arr0,rfl,hs0⟩:=h0
     rw[z0,z0,z0,V.on_c1 hx,V.on_c1 hy]at hs0
     obtain⟨l0⟩:=arr0
     match l0,hs0 with
     |[p0,p1,p2],⟨q0,q1,q2,_⟩=>
      have q1: ∃b c,β k.num=some (b,c)∧0+n≤c∧p1= .slice (some ⟨b,0*w1,none⟩) n (c-0):=q1
      obtain⟨bb,c,hβ,hc,rfl⟩:=q1
      have hr:=hM.rep k _ hk
      have hrr: ∃arr T,w.heap[bb]?=some (.cells arr T (0,0))∧Sats β H (flat D (Sq.toL .und t 0 N)) (arr.toList.take (flat D (Sq.toL .und t 0 N)).length):=by
       have hr:(groB es (flat D (Sq.toL .und t 0 N))).rep β w H k.num:=hr
       rcases FG es (flat D (Sq.toL .und t 0 N))with e|e<;>rw[e]at hr
       ·obtain⟨b0,c0,arr,T,r1,r2,r3⟩:=hr
        rw[hβ]at r1;cases r1
        exact⟨arr,T,r2,by rw[r3.length,q2c];exact r3⟩
       ·rcases hr with⟨r1,_⟩|⟨b0,c0,arr,T,r1,r2,_,_,r3⟩
        ·rw[hβ]at r1;cases r1
        ·rw[hβ]at r1;cases r1
         exact⟨arr,T,r2,r3⟩
      obtain⟨arr,T,r2,r3⟩:=hrr
      have hH:=(hM.own k _ hk bb c hβ).1
      have hok:okE es (Sq.toL .und t 0 N):=(hsk.ok k _ hk).2
      have hft:(flat D (Sq.toL .und t 0 N)).take (n*es)=flat D (Sq.toL .und t 0 n):=by
       have e2:(Sq.toL .und t 0 N).take n=Sq.toL .und t 0 n:=by
        have:=H3 V.und t (lo:=0) (n:=n) (k:=N) (by omega)
        rwa [q1J]at this
       rw[Cm hok n (by rw[Sq.toL_len];exact hn),e2]
      have r4:=r3.take (n*es)
      rw[hft,MJ ht,vj]at r4
      have r5:=CSats.of_up r4
      have hle:Heap.Le H (H.set bb arr):=Heap.set_le arr hH
      refine⟨H.set bb arr,fun b' cs hb'=>?_,⟨⟨_,rfl,⟨Atom.sat_one (a:=V.a1 D x) q0,?_,Atom.sat_one (a:=V.a1 D y) q2,trivial⟩⟩,h1,h2,trivial⟩⟩
      ·unfold Heap.set at hb'
       split at hb'
       ·rename_i e;subst e;cases hb';exact⟨T,(0,0),r2⟩
       ·exact hon b' cs hb'
      ·refine⟨_,_,by rw[q2P],by omega,.inr ⟨bb,0,arr,rfl,Heap.set_at _ _ _,?_⟩⟩
       rw[q1J]
       have:=r5.length
       have r6:=CSats.mono hle r5
       rw[q2f]at r6 this
       rw[this,q1Z,←List.take_eq_take_min]
       exact r6
  ·cases hv
 ·cases hv
end
end
noncomputable section
section
variable {D:List Int}
theorem q0Q:qM D Go.Proofs.Tryz.prog 16 (qR .sign):=RA fun x hx=>P0.sig x hx (fun p hp=>by simp at hp)
theorem q0R:qM D Go.Proofs.Tryz.prog 24 (qR .frac):=YT fun u v hu hv h0=>X8.sig (u,v) ⟨hu,hv⟩ (fun p hp=>by simp at hp)
theorem q0S:qM D Go.Proofs.Tryz.prog 25 (qR .int):=Uw fun z hz=>q0b.sig z (hz.mono (by decide)) (fun p hp=>by simp at hp)
theorem q0T:qM D Go.Proofs.Tryz.prog 26 (qR .neg):=q0N fun x hx=>SB.sig x hx (fun p hp=>by simp at hp)
theorem q0U:qM D Go.Proofs.Tryz.prog 44 (qR .times):=W0 fun l a b h1 h2 h3=>q1d l a b h1 h2 h3
theorem q0V:qM D Go.Proofs.Tryz.prog 45 (qR .add):=Ut fun x y hx hy=>SA.sig (x,y) ⟨hx,hy⟩ (fun p hp=>by simp at hp)
theorem q0W:qM D Go.Proofs.Tryz.prog 47 (qR .make):=Ry fun u v hu hv h0=>by have:=OZ.sig (u,v) ⟨hu,hv⟩ (fun p hp=>by simp at hp);rw[show(Jn.res Jn.bs (u,v)).exp= .tup [.agg (qj .rat ((u:Rat)/(v:Rat))),.one (.val (.int .i64 (mkC' v)))]from rfl,show mkC' v=0 from if_neg h0]at this;exact this
theorem q0X:qM D Go.Proofs.Tryz.prog 48 (qR .mul):=Ux fun x y hx hy=>q0d.sig (x,y) ⟨hx,hy⟩ (fun p hp=>by simp at hp)
theorem q0Y:qM D Go.Proofs.Tryz.prog 52 (qR .max):=q0L fun x y hx hy=>Zq.sig (x,y) ⟨hx,hy⟩ (fun p hp=>by simp at hp)
theorem q0Z:qM D Go.Proofs.Tryz.prog 54 (qR .idq):=Uv fun x hx=>YR.sig x (Fu hx) (fun p hp=>by simp at hp)
theorem q10:qM D Go.Proofs.Tryz.prog 57 (qR .same):=Rz fun x y hx hy=>Xd.sig (x,y) ⟨hx,hy⟩ (fun p hp=>by simp at hp)
theorem q11:qM D Go.Proofs.Tryz.prog 90 (qR .cmp):=Uu fun x y hx hy=>RK.sig (x,y) ⟨hx,hy⟩ (fun p hp=>by simp at hp)
theorem q12:qM D Go.Proofs.Tryz.prog 91 (qR .quo):=Uy fun x y hx hy=>Zy.sig (x,y) ⟨hx,hy⟩ (fun p hp=>by simp at hp)
theorem q13:qM D Go.Proofs.Tryz.prog 92 (qR .sub):=Uz fun x y hx hy=>ZA.sig (x,y) ⟨hx,hy⟩ (fun p hp=>by simp at hp)
theorem q14:qM D Go.Proofs.Tryz.prog 93 (qR .int):=Uw fun z hz=>Zo.sig z (hz.mono (by decide)) (fun p hp=>by simp at hp)
theorem q15:qM D Go.Proofs.Tryz.prog 94 (qR .add):=Ut fun x y hx hy=>W9.sig (x,y) ⟨hx,hy⟩ (fun p hp=>by simp at hp)
theorem q16:qM D Go.Proofs.Tryz.prog 95 (qR .mul):=Ux fun x y hx hy=>Zu.sig (x,y) ⟨hx,hy⟩ (fun p hp=>by simp at hp)
theorem q17:qM D Go.Proofs.Tryz.prog 96 (qR .idq):=Uv fun x hx=>K2.sig x (Fu hx) (fun p hp=>by simp at hp)
theorem YY:qM D Go.Proofs.Tryz.prog 112 (qR .cmp):=Uu fun x y hx hy=>q07.sig (x,y) ⟨hx,hy⟩ (fun p hp=>by simp at hp)
theorem YZ:qM D Go.Proofs.Tryz.prog 122 (qR .valid):=W1 fun x hx=>TQ.sig x hx (fun p hp=>by simp at hp)
theorem Z0:qM D Go.Proofs.Tryz.prog 127 (qR .sign):=RA fun x hx=>OD.sig x hx (fun p hp=>by simp at hp)
theorem Z1:qM D Go.Proofs.Tryz.prog 129 (qR .bits):=YS fun x hx=>Wg.sig x hx (fun p hp=>by simp at hp)
theorem Z2:qM D Go.Proofs.Tryz.prog 134 (qR .sub):=Uz fun x y hx hy=>q0k.sig (x,y) ⟨hx,hy⟩ (fun p hp=>by simp at hp)
theorem Z3:qM D Go.Proofs.Tryz.prog 182 (qR .same):=Rz fun x y hx hy=>Wn.sig (x,y) ⟨(Fu hx),(Fu hy)⟩ (fun p hp=>by simp at hp)
theorem Z4:qM D Go.Proofs.Tryz.prog 200 (qR .trim):=YX fun x hx=>Kc x hx (fun p hp=>by simp at hp)
theorem Z5:qM D Go.Proofs.Tryz.prog 229 (qR .over):=YV fun x y hx hy=>Xb.sig (x,y) ⟨hx,hy⟩ (fun p hp=>by simp at hp)
theorem Z6:qM D Go.Proofs.Tryz.prog 241 (qR .small):=VZ fun x u hx hu h0=>OP.sig (x,u) ⟨hx,hu⟩ (fun p hp=>by(rcases q22.1 hp with h|h)<;>first|(rw[h];exact h0)|simp at h)
theorem Z7:qM D Go.Proofs.Tryz.prog 256 (qR .quo):=Uy fun x y hx hy=>SC.sig (x,y) ⟨hx,hy⟩ (fun p hp=>by simp at hp)
theorem Z8:qM D Go.Proofs.Tryz.prog 259 (qR .min):=q0M fun x y hx hy=>Zs.sig (x,y) ⟨hx,hy⟩ (fun p hp=>by simp at hp)
theorem Z9:qM D Go.Proofs.Tryz.prog 269 (qR .make):=Ry fun u v hu hv h0=>by have:=Wk.sig (u,v) ⟨hu,hv⟩ (fun p hp=>by simp at hp);rw[show(J4.res J4.bs (u,v)).exp= .tup [.agg (qj .rat ((u:Rat)/(v:Rat))),.one (.val (.int .i64 (mkC' v)))]from rfl,show mkC' v=0 from if_neg h0]at this;exact this
def tbA:List (Nat×Pt):=[(16,.sign),(24,.frac),(25,.int),(26,.neg),(44,.times),(45,.add),(47,.make),(48,.mul),(52,.max),(54,.idq),(57,.same),(90,.cmp),(91,.quo),(92,.sub),(93,.int),(94,.add),(95,.mul),(96,.idq),(112,.cmp),(122,.valid),(127,.sign),(129,.bits),(134,.sub),(182,.same),(200,.trim),(229,.over),(241,.small),(256,.quo),(259,.min),(269,.make)]
theorem Sd: ∀p∈tbA,qM D Go.Proofs.Tryz.prog p.1 (qR p.2):=fun p hp=>by
 unfold tbA at hp
 simp only[q22,q2a,or_false]at hp
 rcases hp with rfl|rfl|rfl|rfl|rfl|rfl|rfl|rfl|rfl|rfl|rfl|rfl|rfl|rfl|rfl|rfl|rfl|rfl|rfl|rfl|rfl|rfl|rfl|rfl|rfl|rfl|rfl|rfl|rfl|rfl
 ·exact q0Q
 ·exact q0R
 ·exact q0S
 ·exact q0T
 ·exact q0U
 ·exact q0V
 ·exact q0W
 ·exact q0X
 ·exact q0Y
 ·exact q0Z
 ·exact q10
 ·exact q11
 ·exact q12
 ·exact q13
 ·exact q14
 ·exact q15
 ·exact q16
 ·exact q17
 ·exact YY
 ·exact YZ
 ·exact Z0
 ·exact Z1
 ·exact Z2
 ·exact Z3
 ·exact Z4
 ·exact Z5
 ·exact Z6
 ·exact Z7
 ·exact Z8
 ·exact Z9
end
end
noncomputable section
section
variable {D:List Int}
theorem DOk.bnd{l:List Int}(h:DOk l):Bnd (.sl (.int .i64)) (.s 1048576 (.n 9223372036854775808)) l:=⟨h.1,h.2⟩
theorem pk_5(hD:Bnd (.sl (.int .i64)) (.s 9223372036854775807 (.n 9223372036854775808)) D):qM D Go.Proofs.Tryz.prog 5 (qR (.light (decide (D.length≤500)))):=VY (VM.sig D hD (fun p hp=>by simp at hp))
theorem pk_7(hD:DOk D):qM D Go.Proofs.Tryz.prog 7 (qR .roll):=YW hD fun d l hl=>Vd.sig d l hl.bnd (fun p hp=>by simp at hp)
theorem q0P(hD:DOk D):qM D Go.Proofs.Tryz.prog 11 (qR .next):=YU hD fun l j m hl hj h0 hm=>by
 have h:=Va.sig (l,j) m ⟨hl.bnd,(show j≤1048576 from q2s hj hl.1)⟩ hm (fun p hp=>by(rcases q22.1 hp with h|h)<;>first|(rw[h];exact h0)|simp at h)
 exact h
end
end
noncomputable section
def stE:S:=⟨mnew,⟨.d0,.d0,.d0,.d0⟩,0,[]⟩
def okB(r:RO):Bool:= @RO.rec (fun _=>Bool) (fun v _=>match v with| .bb b=>b|_=>false) (fun _=>false) (fun _=>false) r
theorem M9{r:RO}(h:okB r=true): ∃s',r= .ok (.bb true) s':=by
 cases r with
 |no t=>cases h
 |need n=>cases h
 |ok v s'=>
  cases v with
  |bb b=>
   have h:b=true:=h
   subst h;exact⟨s',rfl⟩
  |_=>cases h
def locL:List Nat:=[0,0,1,195713069214720,388958814993152,56,4530200926748608,56,79189476888028788142351810560,2016,4951755360409348779552996864,34359721952,9004992161517568,74436767763955288845683660821894758400,154723025074621157220613888,1293003612192616834531785984569344,184,274877636480,268434432,16256,36893488077625815040,1099259934720,8587232,2096608,16320,8160,14456,18014389852438400,120,2192330507923301632473003298344499551702192615424,4193760,62,33552256,2031360,15840,15808,1057810092162766105182208,8184,9223371757681360896,4229463040,1920,524096,32760,1073741760,61574798359552,37778927357158510000640,3968,536867840,2097120,1048288,480,2305561517056586752,3808,18889465931478580723968,4088,274862170624,24,33949664,32720,32624,35960,76552397773627888,29710791214131716529417326080,992,32624,1073676256,32736,8795958804352,240,65504,68652350464,3782725072640,4611686018419407872,24,232,232,15808,18446744073640343552,33422336,8796093020160,56,137438951936,1048384,147573952589659373056,952,33847365689392896,18014123493564160,1097363061696,7616,2096768,1133358659614641839128576,288230375610626048,2016,504,992,18446744039079344128,4088,548707761152,288226462429863936,65408,16911169536,68719377408,224,224,316912650057025825173562950720,232,8792066226176,66059008,268311808,1016,16504,2251776191101440,16105979648,17112776416,3931008,1016,2147483104,1073740672,2143281024,17592154095360,480,56,2269133697724664,310408241687755327256624128,270328,480,120,1776,56,1016,196352,73786975195326574336,268311808,8184,480,4032,66846528,2199014862784,8323568,11692007523460922414819940996569702616912153281536,1125625020480512,1073447904,50301888,17557808988096,590295810357663496192,952,1125865547091968,277277621789195702016,5708903653220914651203579310974726213113741312,4072,2,1008,1246200,573664,288228314551672832,1008,324516387262324959420134352977920,536855024,1008,33553472,35167160752128,73786948841474351104,134214624,16775168,2087067392,3064991081651285964515747586381944273465083587961815040,224,2096640,8380864,525304,134156224,67092112,33029984,2016,2101216,41538216409535740860339456476967040,68215103488,457792,16504,1048440,2287828026580244096,16776128,8587232,56,2027520,992,480,4080,457792,4177648,562932772502592,61606743505920,262136,36028659546452096,8796092956160,1099511611136,3936,992,36028762650832640,2096608,2032112,4000,128992,2037032151679167088875178089731766329874812294602794236573305126006473333637623210246668288,288230358956105216,0,18014394183020544,1016,131032,265336,17376,4397983565312,549753920896,536348608,36028797018045952,240,240,4080,1125891727947776,4088,2596148429267413543750308518952960,130816,549957930104,2251799781981696,4294901280,2305841085068343296,1048384,2097120,8658620643072,16320,268434688,262128,134152096,524008,2096608,73786413310256577280,8380864,457792,35183302532032,261952,17591915503616,8796092956160,56,2199023132160,4064,67552,39614080961984263615267404800,58722272,864128105490430976,562949937491968,1048320,8,8160,233408,992,549752135424,134217152,268434928,4951760157141521098539376640,3808,0,1008,85070591730234539201157273851742650368,2417851603200419438261248,281474917064640,524256,16320,16368,16769472,524096,268434928,0,0,0,0,0,0,0,0,0,0,0,0,0,0,0,0,0,0]
def locT(f:FuncId):Nat:=locL.getD f 0
def runE:Bool:=okB ((Ci Go.Proofs.Tryz.prog (prims tbA) locT 60).call 6 (ju []).c0 0 stE)
theorem G9(D:List Int):SOK D stE:=by
 refine⟨fun k b h=>?_,fun k h=>?_,fun j p h=>?_⟩
 ·rw[show stE.m=mnew from rfl,A9]at h;cases h
 ·rw[show stE.m=mnew from rfl,A9]at h;exact absurd rfl h
 ·have h:([]:List (Nat×Nat))[j]?=some p:=h
  simp at h
def tbF:List (Nat×Pt):=(5,.light true)::(7,.roll)::(11,.next)::(6,.tru)::tbA
def stC(l:List (Nat×Nat)):S:=⟨mnew,⟨.d0,.d0,.d0,.d0⟩,0,l⟩
def jd(l:List (Nat×Nat)):Bool:=okB ((Ci Go.Proofs.Tryz.prog (prims tbF) locT 60).call 4 (ju [.dl]).c0 1 (stC l))
def tbG:List (Nat×Pt):=[(5,.light false),(6,.tru)]
def runG:Bool:=okB ((Ci Go.Proofs.Tryz.prog (prims tbG) locT 60).call 4 (ju [.dl]).c0 1 (stC []))
end
end Go.Proofs.YtjemkhmahjnfaaaGreat.Sx.Kx
