/-
Own laws, part 7. No condition.
-/
import Derived.Test.YtknbiadjbdemdaaGreatS6
import Derived.StringKeys
import Derived.Maps.Keyed
import Derived.Laws.BytesArg
import Derived.Scope
namespace Go.Proofs.YtknbiadjbdemdaaGreat.Sx.Kx
open Go
set_option linter.unusedVariables false
set_option linter.unusedSimpArgs false
noncomputable section
def jf(a b:Bool):Bool:= @Bool.rec (λ_=>Bool) false b a
def notB(a:Bool):Bool:= @Bool.rec (λ_=>Bool) true false a
def keqF(a b:IntKind):Bool:=Nat.beq (kNum a) (kNum b)
def nnK(k:IntKind)(c:Nat)(K:V->RO):RO:= @Bool.rec (λ_=>RO) (K (nnW k c)) (K (.nn k c)) (Nat.blt c (kLim k))
structure HB where
 f:IntKind->Nat->Nat->(V->RO)->RO
def binH(op:BinOp):HB:=
 match op with
 | .add=>⟨λk a b K=>nnK k (Nat.add a b) K⟩
 | .sub=>⟨λk a b K=> @Bool.rec (λ_=>RO) (qF (binI .sub k a b) K) (K (.nn k (Nat.sub a b))) (jf (Nat.ble b a) (Nat.blt a (kLim k)))⟩
 | .mul=>⟨λk a b K=>nnK k (Nat.mul a b) K⟩
 | .quo=>⟨λk a b K=> @Bool.rec (λ_=>RO) (nnK k (Nat.div a b) K) (.no [96]) (Nat.beq b 0)⟩
 | .rem=>⟨λk a b K=> @Bool.rec (λ_=>RO) (K (.nn k (Nat.mod a b))) (.no [96]) (Nat.beq b 0)⟩
 | .eql=>⟨λk a b K=>K (.bb (Nat.beq a b))⟩
 | .neq=>⟨λk a b K=>K (.bb (notB (Nat.beq a b)))⟩
 | .lss=>⟨λk a b K=>K (.bb (Nat.blt a b))⟩
 | .leq=>⟨λk a b K=>K (.bb (Nat.ble a b))⟩
 | .gtr=>⟨λk a b K=>K (.bb (Nat.blt b a))⟩
 | .geq=>⟨λk a b K=>K (.bb (Nat.ble b a))⟩
 |op=>⟨λk a b K=>qF (binI op k a b) K⟩
def kbB:Option KB->(V->RO)->RO:= @Option.rec KB (λ_=>(V->RO)->RO) (λ_=> .no [94]) (@KB.rec (λ_=>(V->RO)->RO) (λv f=>f v) (λ_ _ _ _=> .no [94]) (λ_ _ _ _=> .no [94]) (λ_ _ _=> .no [94]) (λ_ _=> .no [94]))
def kbR:Option KB->(Nat->Nat->Sq V->RO)->(Nat->Nat->Sq V->RO)->RO:= @Option.rec KB (λ_=>(Nat->Nat->Sq V->RO)->(Nat->Nat->Sq V->RO)->RO) (λ_ _=> .no [95]) (@KB.rec (λ_=>(Nat->Nat->Sq V->RO)->(Nat->Nat->Sq V->RO)->RO) (λ_ _ _=> .no [95]) (λa b c f _=>f a b c) (λa b c _ g=>g a b c) (λ_ _ _ _=> .no [95]) (λ_ _ _=> .no [95]))
def AJ(g:Bool)(s:Nat)(v:V)(o:Nat)(K:V->RO):RO:=
 @Bool.rec (λ_=>RO) (ld1 v o K) (ldA v s o K (qF (ldS true s v o []).res K)) g
def BR (g : Bool) (s : Nat) (m : qR) (p : V) (K : V -> RO) : RO :=
 qP p (λk o => kbB (zA m k) λv => AJ g s v o K)
  (λk i o w => kbR (zA m k) (λes n q => @Bool.rec (λ_ => RO) (.no [98]) (AJ g s (Sq.get .und q i) o K) (jf (Nat.beq w es) (Nat.blt i n)))
   (λes n q => @Bool.rec (λ_ => RO) (.no [98]) (AJ g s (Sq.get .und q i) o K) (jf (Nat.beq w es) (Nat.blt i n))))
def layF(v:V)(o s:Nat)(x:V)(K:V->RO):RO:=
 (λz=>qX x s (stV v o s x K z) z) (@Option.rec V (λ_=>RO) (.no [96]) K (putV v o s x))
def setS(S0:S)(k:Key)(b:KB)(K:V->S->RO):RO:= @S.rec (λ_=>RO) (λm nx dn sc=>K (.tu []) ⟨AH m k (some b),nx,dn,sc⟩) S0
def AN (s : Nat) (S0 : S) (p x : V) (K : V -> S -> RO) : RO :=
 qP p (λk o => kbB (zA S0.m k) λv => layF v o s x λy => setS S0 k (.bx y) K)
  (λk i o w => kbR (zA S0.m k)
   (λes n q => @Bool.rec (λ_ => RO) (.no [98]) (layF (Sq.get .und q i) o s x λy => setS S0 k (.arr es n (Sq.set y q i)) K) (jf (Nat.beq w es) (Nat.blt i n)))
   (λes n q => @Bool.rec (λ_ => RO) (.no [98]) (layF (Sq.get .und q i) o s x λy => setS S0 k (.gro es n (Sq.set y q i)) K) (jf (Nat.beq w es) (Nat.blt i n))))
def nxD:D16->(D16->RO)->RO->RO:= @D16.rec (λ_=>(D16->RO)->RO->RO)
 (λf _=>f .d1) (λf _=>f .d2) (λf _=>f .d3) (λf _=>f .d4) (λf _=>f .d5) (λf _=>f .d6) (λf _=>f .d7) (λf _=>f .d8) (λf _=>f .d9) (λf _=>f .d10) (λf _=>f .d11) (λf _=>f .d12) (λf _=>f .d13) (λf _=>f .d14) (λf _=>f .d15) (λ_ z=>z)
def BV(k:Key)(f:Key->RO):RO:= @Key.rec (λ_=>RO) (λa b c d=>nxD d (λd=>f ⟨a,b,c,d⟩) (nxD c (λc=>f ⟨a,b,c,.d0⟩) (nxD b (λb=>f ⟨a,b,.d0,.d0⟩) (nxD a (λa=>f ⟨a,.d0,.d0,.d0⟩) (.no []))))) k
def newF(S0:S)(v:V)(K:V->S->RO):RO:= @S.rec (λ_=>RO) (λm nx dn sc=>BV nx λk'=>K (.pp nx 0) ⟨AH m nx (some (.bx v)),k',dn,sc⟩) S0
def roK(r:RO)(K:V->S->RO):RO:= @RO.rec (λ_=>RO) (λv s=>K v s) (λt=> .no t) (λn=> .need n) r
abbrev Row:=N16 V
structure Rc where
 call:FuncId->Row->Nat->S->RO
structure LC (γ:Type) where
 ih:Env16->S->RO
 up:γ
structure CK (γ:Type) where
 f:γ->Env16->S->RO
structure CF (γ α:Type) where
 f:γ->α->Env16->S->RO
structure RG (γ:Type) where
 f:γ->FuncId->Row->Nat->S->RO
structure Fm (α:Type) where
 v:V
 r:α
inductive Src (α:Type) where
 |c (v:V)
 |g (d:Bool) (dep:Nat) (f:α->Env16->V)
 |dead
abbrev Mp(α:Type):=List (Nat×Src α)
structure GV (α:Type) where
 f:α->Env16->V
structure VL (α:Type) where
 f:α->Env16->List V
structure CD (α:Type) where
 f:α->Env16->RO->RO
structure VC (α:Type) where
 f:α->Env16->S->(V->RO)->RO
structure OC (γ α:Type) where
 f:γ->α->Env16->S->(V->S->RO)->RO
structure HK (α:Type) where
 f:α->Env16->S->KR
structure GS (α:Type) where
 f:α->S
def Src.up{α:Type}(x:Src α):Src (Fm α):=match x with| .c v=> .c v| .g d n f=> .g d n (λfr e=>f fr.r e)| .dead=> .dead
def upM{α:Type}(m:Mp α):Mp (Fm α):=m.map λp=>(p.1,p.2.up)
def Ql{α:Type}(t:Nat)(y:Src α):Src α:=match y with| .g d n f=>bif Nat.beq n (t+1)then .dead else .g d n f|y=>y
def zJ{α:Type}(t:Nat)(m:Mp α):Mp α:=m.map λp=>(p.1,Ql t p.2)
def vp{α:Type}(t:Nat):Mp α->Option (Src α)
 |[]=>none
 |p::r=>bif Nat.beq p.1 t then some p.2 else vp t r
def gT0(t:Nat):GE:=gTab (D16.of (Nat.div t 16)) (D16.of (Nat.mod t 16))
def sT0(t:Nat):SE:=sTab (D16.of (Nat.div t 16)) (D16.of (Nat.mod t 16))
def swE(e:Env16):Env16:=⟨e.hi,e.lo⟩
def gT(t:Nat):GE:=bif Nat.blt t 256 then gT0 t else(match gT0 (Nat.sub t 256)with|⟨f⟩=>⟨λe=>f (swE e)⟩)
def sT(t:Nat):SE:=bif Nat.blt t 256 then sT0 t else(match sT0 (Nat.sub t 256)with|⟨g⟩=>⟨λv e=>swE (g v (swE e))⟩)
abbrev Kont(γ α:Type):=(β:Type)->(β->α)->Mp β->Nat->CF γ β
section
variable {γ α:Type} (P:Program) (pr:vE) (rg:RG γ) (loc D:Nat) (m:Mp α) (k:Kont γ α)
def src(x:Operand):Option (Src α):=
 match x with
 | .tmp t=>bif Nat.testBit loc t then(match vp t m with|some .dead=>none|y=>y)else(bif Nat.blt t 512 then(match gT t with|⟨f⟩=>some (.g (Nat.testBit D t) (t+1) λ_ e=>f e))else none)
 | .const v=>frcV (jR v) (λc=>some (.c c)) none
 | .func f=>some (.c (.uu (.func (.func f) #[] #[])))
 | .global _=>none
def gv(x:Operand):Option (GV α):=match src loc D m x with|some (.c v)=>some ⟨λ_ _=>v⟩|some (.g _ _ f)=>some ⟨f⟩|_=>none
def gvD(x:Operand):Option (GV α):=match src loc D m x with|some (.c v)=>some ⟨λ_ _=>v⟩|some (.g true _ f)=>some ⟨f⟩|_=>none
def gvs:List Operand->Option (VL α)
 |[]=>some ⟨λ_ _=>[]⟩
 |x::r=>match gv loc D m x,gvs r with
  |some ⟨g⟩,some ⟨l⟩=>some ⟨λfr e=>g fr e::l fr e⟩
  |_,_=>none
def dfs:List Operand->Option (CD α)
 |[]=>some ⟨λ_ _ z=>z⟩
 |x::r=>match src loc D m x,dfs r with
  |some (.c _),l=>l
  |some (.g true _ _),l=>l
  |some (.g false _ f),some ⟨l⟩=>some ⟨λfr e z=>qD (f fr e) (l fr e z)⟩
  |_,_=>none
structure RW (α:Type) where
 f:α->Env16->Row
def Gp(l:List Operand):Option (RW α):=
 match l with
 |[]=>some ⟨λ_ _=>⟨.und,.und,.und,.und,.und,.und,.und,.und,.und,.und,.und,.und,.und,.und,.und,.und⟩⟩
 |[a]=>(match gv loc D m a with|some ⟨a⟩=>some ⟨λfr e=>⟨a fr e,.und,.und,.und,.und,.und,.und,.und,.und,.und,.und,.und,.und,.und,.und,.und⟩⟩|_=>none)
 |[a,b]=>(match gv loc D m a,gv loc D m b with|some ⟨a⟩,some ⟨b⟩=>some ⟨λfr e=>⟨a fr e,b fr e,.und,.und,.und,.und,.und,.und,.und,.und,.und,.und,.und,.und,.und,.und⟩⟩|_,_=>none)
 |[a,b,c]=>(match gv loc D m a,gv loc D m b,gv loc D m c with|some ⟨a⟩,some ⟨b⟩,some ⟨c⟩=>some ⟨λfr e=>⟨a fr e,b fr e,c fr e,.und,.und,.und,.und,.und,.und,.und,.und,.und,.und,.und,.und,.und⟩⟩|_,_,_=>none)
 |l=>(match gvs loc D m l with|some ⟨l⟩=>some ⟨λfr e=>(jF (l fr e)).c0⟩|none=>none)
def badC:CF γ α:=⟨λ_ _ _ _=> .no [99]⟩
def Lu(dst:Option Tmp)(h:VC α):CF γ α:=
 match h with
 |⟨h⟩=>match dst with
  |none=>(match k α id m D with|⟨K⟩=>⟨λc fr e s=>h fr e s λ_=>K c fr e s⟩)
  |some t=>bif Nat.testBit loc t then(match k (Fm α) (λf=>f.r) ((t,.g true 0 λfr _=>fr.v)::upM m) D with|⟨K⟩=>⟨λc fr e s=>h fr e s λv=>K c ⟨v,fr⟩ e s⟩)
   else(match k α id (zJ t m) (D|||2^t),sT t with|⟨K⟩,⟨st⟩=>⟨λc fr e s=>h fr e s λv=>K c fr (st v e) s⟩)
def Qr:PSigma λF=>F= @Lu:=by
 delta Lu
 try delta AJ
 try delta BR
 try delta layF
 try delta AN
 try delta newF
 try delta BV
 try delta nxD
 try delta setS
 try delta roK
 try delta kbB
 try delta kbR
 try delta nnK
 try delta jf
 try delta notB
 try delta kbB
 try delta kbR
 try delta qNN
 try delta qN
 try delta qP
 try delta qS
 try delta qB
 try delta qG
 try delta qD
 try delta qF
 try delta qC
 try delta qZ
 try delta qX
 try delta qT
 try delta qK
 try delta ld1
 try delta ldA
 try delta stV
 try delta uAt
 try delta Dh
 try delta uAt3
 try delta CM
 try delta Di
 try delta Dj
 try delta zA
 try delta AH
 try delta mg1
 try delta mg2
 try delta mg3
 try delta mg4
 try delta ms1
 try delta ms2
 try delta ms3
 try delta ms4
 try delta Env16.lo
 try delta Env16.hi
 try delta S.m
 try delta S.nx
 try delta Fm.v
 try delta Fm.r
 try delta Fs.s
 try delta Fs.r
 try delta LC.ih
 try delta LC.up
 try delta Rc.call
 try delta CF.f
 try delta CK.f
 try delta N16.c0
 try delta N16.c1
 try delta N16.c2
 try delta N16.c3
 try delta N16.c4
 try delta N16.c5
 try delta N16.c6
 try delta N16.c7
 try delta N16.c8
 try delta N16.c9
 try delta N16.c10
 try delta N16.c11
 try delta N16.c12
 try delta N16.c13
 try delta N16.c14
 try delta N16.c15
 exact⟨_,rfl⟩
def finV(dst:Option Tmp)(h:VC α):CF γ α:=Qr.1 loc D m k dst h
def Lt(dst:Option Tmp)(h:OC γ α):CF γ α:=
 match h with
 |⟨h⟩=>match dst with
  |none=>(match k α id m D with|⟨K⟩=>⟨λc fr e s=>h c fr e s λ_ s'=>K c fr e s'⟩)
  |some t=>bif Nat.testBit loc t then(match k (Fm α) (λf=>f.r) ((t,.g true 0 λfr _=>fr.v)::upM m) D with|⟨K⟩=>⟨λc fr e s=>h c fr e s λv s'=>K c ⟨v,fr⟩ e s'⟩)
   else(match k α id (zJ t m) (D|||2^t),sT t with|⟨K⟩,⟨st⟩=>⟨λc fr e s=>h c fr e s λv s'=>K c fr (st v e) s'⟩)
def Qq:PSigma λF=>F= @Lt:=by
 delta Lt
 try delta AJ
 try delta BR
 try delta layF
 try delta AN
 try delta newF
 try delta BV
 try delta nxD
 try delta setS
 try delta roK
 try delta kbB
 try delta kbR
 try delta nnK
 try delta jf
 try delta notB
 try delta kbB
 try delta kbR
 try delta qNN
 try delta qN
 try delta qP
 try delta qS
 try delta qB
 try delta qG
 try delta qD
 try delta qF
 try delta qC
 try delta qZ
 try delta qX
 try delta qT
 try delta qK
 try delta ld1
 try delta ldA
 try delta stV
 try delta uAt
 try delta Dh
 try delta uAt3
 try delta CM
 try delta Di
 try delta Dj
 try delta zA
 try delta AH
 try delta mg1
 try delta mg2
 try delta mg3
 try delta mg4
 try delta ms1
 try delta ms2
 try delta ms3
 try delta ms4
 try delta Env16.lo
 try delta Env16.hi
 try delta S.m
 try delta S.nx
 try delta Fm.v
 try delta Fm.r
 try delta Fs.s
 try delta Fs.r
 try delta LC.ih
 try delta LC.up
 try delta Rc.call
 try delta CF.f
 try delta CK.f
 try delta N16.c0
 try delta N16.c1
 try delta N16.c2
 try delta N16.c3
 try delta N16.c4
 try delta N16.c5
 try delta N16.c6
 try delta N16.c7
 try delta N16.c8
 try delta N16.c9
 try delta N16.c10
 try delta N16.c11
 try delta N16.c12
 try delta N16.c13
 try delta N16.c14
 try delta N16.c15
 exact⟨_,rfl⟩
def finO(dst:Option Tmp)(h:OC γ α):CF γ α:=Qq.1 loc D m k dst h
def Ls(dst:Option Tmp)(x:Src α):CF γ α:=
 match x,dst with
 | .c v,some t=>bif Nat.testBit loc t then k α id ((t,.c v)::m) D else(match k α id (zJ t m) (D|||2^t),sT t with|⟨K⟩,⟨st⟩=>⟨λc fr e s=>K c fr (st v e) s⟩)
 | .g true n f,some t=>bif Nat.testBit loc t then k α id ((t,.g true n f)::m) D else(match k α id (zJ t m) (D|||2^t),sT t with|⟨K⟩,⟨st⟩=>⟨λc fr e s=>K c fr (st (f fr e) e) s⟩)
 | .g false n f,some t=>bif Nat.testBit loc t then(match k α id ((t,.g true n f)::m) D with|⟨K⟩=>⟨λc fr e s=>qD (f fr e) (K c fr e s)⟩)else(match k α id (zJ t m) (D|||2^t),sT t with|⟨K⟩,⟨st⟩=>⟨λc fr e s=>qF (f fr e) λv=>K c fr (st v e) s⟩)
 |_,_=>badC
def Qp:PSigma λF=>F= @Ls:=by
 delta Ls
 try delta AJ
 try delta BR
 try delta layF
 try delta AN
 try delta newF
 try delta BV
 try delta nxD
 try delta setS
 try delta roK
 try delta kbB
 try delta kbR
 try delta nnK
 try delta jf
 try delta notB
 try delta kbB
 try delta kbR
 try delta qNN
 try delta qN
 try delta qP
 try delta qS
 try delta qB
 try delta qG
 try delta qD
 try delta qF
 try delta qC
 try delta qZ
 try delta qX
 try delta qT
 try delta qK
 try delta ld1
 try delta ldA
 try delta stV
 try delta uAt
 try delta Dh
 try delta uAt3
 try delta CM
 try delta Di
 try delta Dj
 try delta zA
 try delta AH
 try delta mg1
 try delta mg2
 try delta mg3
 try delta mg4
 try delta ms1
 try delta ms2
 try delta ms3
 try delta ms4
 try delta Env16.lo
 try delta Env16.hi
 try delta S.m
 try delta S.nx
 try delta Fm.v
 try delta Fm.r
 try delta Fs.s
 try delta Fs.r
 try delta LC.ih
 try delta LC.up
 try delta Rc.call
 try delta CF.f
 try delta CK.f
 try delta N16.c0
 try delta N16.c1
 try delta N16.c2
 try delta N16.c3
 try delta N16.c4
 try delta N16.c5
 try delta N16.c6
 try delta N16.c7
 try delta N16.c8
 try delta N16.c9
 try delta N16.c10
 try delta N16.c11
 try delta N16.c12
 try delta N16.c13
 try delta N16.c14
 try delta N16.c15
 exact⟨_,rfl⟩
def finM(dst:Option Tmp)(x:Src α):CF γ α:=Qp.1 loc D m k dst x
structure NT where
 f:List V->(V->RO)->RO
def nthC:Nat->NT
 |0=>⟨λl K=> @List.rec V (λ_=>RO) (.no [97]) (λv _ _=>qF v K) l⟩
 |n+1=>match nthC n with|⟨g⟩=>⟨λl K=> @List.rec V (λ_=>RO) (.no [97]) (λ_ r _=>g r K) l⟩
def vk (op : Op) : Option (VC α) :=
 match op with
 | .load t x => (match gv loc D m x, qE P t with
  | some ⟨g⟩, some (true, sz) => some ⟨λfr e s K => qP (g fr e) (λk o => kbB (zA s.m k) λv => ldA v sz o K (qF (ldS true sz v o []).res K))
    (λk i o w => kbR (zA s.m k) (λes n q => @Bool.rec (λ_ => RO) (.no [98]) ((λv => ldA v sz o K (qF (ldS true sz v o []).res K)) (Sq.get .und q i)) (jf (Nat.beq w es) (Nat.blt i n)))
     (λes n q => @Bool.rec (λ_ => RO) (.no [98]) ((λv => ldA v sz o K (qF (ldS true sz v o []).res K)) (Sq.get .und q i)) (jf (Nat.beq w es) (Nat.blt i n))))⟩
  | some ⟨g⟩, some (false, 1) => some ⟨λfr e s K => qP (g fr e) (λk o => kbB (zA s.m k) λv => ld1 v o K)
    (λk i o w => kbR (zA s.m k) (λes n q => @Bool.rec (λ_ => RO) (.no [98]) (ld1 (Sq.get .und q i) o K) (jf (Nat.beq w es) (Nat.blt i n)))
     (λes n q => @Bool.rec (λ_ => RO) (.no [98]) (ld1 (Sq.get .und q i) o K) (jf (Nat.beq w es) (Nat.blt i n))))⟩
  | _, _ => none)
 | .binOp op t x y _ => (match gv loc D m x, src loc D m y with
  | some ⟨x⟩, some sy => bif isSh op then (match gv loc D m y with | some ⟨y⟩ => some ⟨λfr e _ K => qF (kBin P op t (x fr e) (y fr e)).res K⟩ | none => none)
   else (match binH op, sy with
    | ⟨h⟩, .c (.nn kc c) => some ⟨λfr e _ K => qNN (x fr e) (λk a => @Bool.rec (λ_ => RO) (.no [92]) (h k a c K) (keqF k kc)) λx => qF (kBin P op t x (.nn kc c)).res K⟩
    | ⟨h⟩, .c y => some ⟨λfr e _ K => qF (kBin P op t (x fr e) y).res K⟩
    | _, .dead => none
    | ⟨h⟩, .g _ _ y => some ⟨λfr e _ K => qNN (x fr e) (λk a => qNN (y fr e) (λk' b => @Bool.rec (λ_ => RO) (.no [92]) (h k a b K) (keqF k k')) λy => qF (kBin P op t (.nn k a) y).res K) λx => qF (kBin P op t x (y fr e)).res K⟩)
  | _, _ => none)
 | .fieldAddr s x f => (match gv loc D m x, vQ P s f with
  | some ⟨g⟩, some (0, _, sz) => bif Nat.beq sz 0 then none else some ⟨λfr e _ K => qP (g fr e) (λk o => K (.pp k o)) λk i o w => K (.ee k i o w)⟩
  | some ⟨g⟩, some (fo, _, sz) => bif Nat.beq sz 0 then none else some ⟨λfr e _ K => qP (g fr e) (λk o => K (.pp k (Nat.add o fo))) λk i o w => K (.ee k i (Nat.add o fo) w)⟩
  | _, _ => none)
 | .indexAddr t x y => (match gv loc D m x, gv loc D m y with
  | some ⟨x⟩, some ⟨y⟩ => (match HT P t with
   | some (n, s) => some ⟨λfr e _ K => qN (y fr e) λj => qP (x fr e) (λk o => @Bool.rec (λ_ => RO) (.no [98]) (K (.pp k (Nat.add o (Nat.mul j s)))) (Nat.blt j n)) (λk q o w => @Bool.rec (λ_ => RO) (.no [98]) (K (.ee k q (Nat.add o (Nat.mul j s)) w)) (Nat.blt j n))⟩
   | none => (match jh P t with
    | some es => some ⟨λfr e _ K => qN (y fr e) λj => qS (x fr e) (λk lo n c w => @Bool.rec (λ_ => RO) (.no [98]) (K (.ee k (Nat.add lo j) 0 w)) (jf (Nat.beq es w) (Nat.blt j n))) (λk lo n w => @Bool.rec (λ_ => RO) (.no [98]) (K (.ee k (Nat.add lo j) 0 w)) (jf (Nat.beq es w) (Nat.blt j n))) λ_ => .no [98]⟩
    | none => none))
  | _, _ => none)
 | .nilCheck x => (match gv loc D m x with | some ⟨x⟩ => some ⟨λfr e _ K => qP (x fr e) (λk o => K (.pp k o)) λk i o w => K (.ee k i o w)⟩ | none => none)
 | .unOp .not _ x => (match gv loc D m x with | some ⟨x⟩ => some ⟨λfr e _ K => qB (x fr e) λb => K (.bb (notB b))⟩ | none => none)
 | .unOp op _ x => (match gv loc D m x with | some ⟨x⟩ => some ⟨λfr e _ K => qF (kUn P op (x fr e)).res K⟩ | none => none)
 | .pick c x y => (match gvD loc D m x, gvD loc D m y, gv loc D m c with
  | some ⟨x⟩, some ⟨y⟩, some ⟨c⟩ => some ⟨λfr e _ K => qB (c fr e) λb => @Bool.rec (λ_ => RO) (K (y fr e)) (K (x fr e)) b⟩
  | _, _, _ => (match gv loc D m x, gv loc D m y, gv loc D m c with
   | some ⟨x⟩, some ⟨y⟩, some ⟨c⟩ => some ⟨λfr e _ K => qF (D0 (c fr e) (x fr e) (y fr e)).res K⟩
   | _, _, _ => none))
 | .convert s t x => (match gv loc D m x, intK P t, P.underlying s with
  | some ⟨x⟩, some k, some _ => some ⟨λfr e _ K => qNN (x fr e) (λ_ n => nnK k n K) λx => qF (CZ P s t x).res K⟩
  | _, _, _ => none)
 | .extract x i => (match gv loc D m x, nthC i with | some ⟨x⟩, ⟨g⟩ => some ⟨λfr e _ K => qT (x fr e) λl => g l K⟩ | none, _ => none)
 | .field s x f => (match gv loc D m x with | some ⟨x⟩ => some ⟨λfr e _ K => qF (Cy P s f (x fr e)).res K⟩ | none => none)
 | .index t x y => (match gv loc D m x, gv loc D m y with | some ⟨x⟩, some ⟨y⟩ => some ⟨λfr e _ K => qF (Cz P t (x fr e) (y fr e)).res K⟩ | _, _ => none)
 | .build t ps => (match gvs loc D m (ps.toList.map (·.2)) with | some ⟨l⟩ => some ⟨λfr e _ K => qF (Cw P t (ps.toList.map (·.1)) (l fr e)).res K⟩ | none => none)
 | .makeFunc fn fs cs => (match gvs loc D m cs.toList with | some ⟨l⟩ => some ⟨λfr e _ K => qF (Bf fn fs (l fr e)).res K⟩ | none => none)
 | .slice t x lo hi none => (match gv loc D m x with
  | some ⟨g⟩ => (match lo, hi with
   | none, none => some ⟨λfr e _ K => qF (vW P t (g fr e) none none).res K⟩
   | some l, none => (match gv loc D m l with | some ⟨gl⟩ => some ⟨λfr e _ K => qF (vW P t (g fr e) (some (gl fr e)) none).res K⟩ | none => none)
   | none, some h => (match gv loc D m h with | some ⟨gh⟩ => some ⟨λfr e _ K => qF (vW P t (g fr e) none (some (gh fr e))).res K⟩ | none => none)
   | some l, some h => (match gv loc D m l, gv loc D m h with | some ⟨gl⟩, some ⟨gh⟩ => some ⟨λfr e _ K => qF (vW P t (g fr e) (some (gl fr e)) (some (gh fr e))).res K⟩ | _, _ => none))
  | none => none)
 | .call { callee := .builtin .len, args := xs, argTypes := ts } => (match xs.toList, ts.toList with
  | [x], [t] => (match gv loc D m x with
   | some ⟨g⟩ => bif jv P t then some ⟨λfr e _ K => qS (g fr e) (λk lo n c w => K (.nn .i64 n)) (λk lo n w => K (.nn .i64 n)) λv => qF (kLen P t v).res K⟩ else some ⟨λfr e _ K => qF (kLen P t (g fr e)).res K⟩
   | none => none)
  | _, _ => none)
 | _ => none
def Mi:PSigma λF=>F= @vk:=by
 delta vk
 try delta AJ
 try delta BR
 try delta layF
 try delta AN
 try delta newF
 try delta BV
 try delta nxD
 try delta setS
 try delta roK
 try delta kbB
 try delta kbR
 try delta nnK
 try delta jf
 try delta notB
 try delta kbB
 try delta kbR
 try delta qNN
 try delta qN
 try delta qP
 try delta qS
 try delta qB
 try delta qG
 try delta qD
 try delta qF
 try delta qC
 try delta qZ
 try delta qX
 try delta qT
 try delta qK
 try delta ld1
 try delta ldA
 try delta stV
 try delta uAt
 try delta Dh
 try delta uAt3
 try delta CM
 try delta Di
 try delta Dj
 try delta zA
 try delta AH
 try delta mg1
 try delta mg2
 try delta mg3
 try delta mg4
 try delta ms1
 try delta ms2
 try delta ms3
 try delta ms4
 try delta Env16.lo
 try delta Env16.hi
 try delta S.m
 try delta S.nx
 try delta Fm.v
 try delta Fm.r
 try delta Fs.s
 try delta Fs.r
 try delta LC.ih
 try delta LC.up
 try delta Rc.call
 try delta CF.f
 try delta CK.f
 try delta N16.c0
 try delta N16.c1
 try delta N16.c2
 try delta N16.c3
 try delta N16.c4
 try delta N16.c5
 try delta N16.c6
 try delta N16.c7
 try delta N16.c8
 try delta N16.c9
 try delta N16.c10
 try delta N16.c11
 try delta N16.c12
 try delta N16.c13
 try delta N16.c14
 try delta N16.c15
 exact⟨_,rfl⟩
def Qj(op:Op):Option (VC α):=Mi.1 P loc D m op
def A9(op:Op):Option (HK α):=
 match op with
 | .buildSlice t n ps=>(match gvs loc D m (ps.toList.map (·.2))with|some ⟨l⟩=>some ⟨λfr e s=>z4 P t n (ps.toList.map (·.1)) (l fr e) s.nx⟩|none=>none)
 | .makeSlice t x y=>(match gv loc D m x,gv loc D m y with|some ⟨gx⟩,some ⟨gy⟩=>some ⟨λfr e s=>zy P t (gx fr e) (gy fr e) s.nx⟩|_,_=>none)
 | .makeMap t none=>some ⟨λ_ _ s=>CA P t s.nx⟩
 | .lookup t x y c=>(match gv loc D m x,gv loc D m y with|some ⟨gx⟩,some ⟨gy⟩=>some ⟨λfr e s=>vC P s.m t c (gx fr e) (gy fr e)⟩|_,_=>none)
 | .mapUpdate t x y z=>(match gv loc D m x,gv loc D m y,gv loc D m z with|some ⟨gx⟩,some ⟨gy⟩,some ⟨gz⟩=>some ⟨λfr e s=>Ff P s.m t (gx fr e) (gy fr e) (gz fr e)⟩|_,_,_=>none)
 | .mapEntry t x y=>(match gv loc D m x,gv loc D m y with|some ⟨gx⟩,some ⟨gy⟩=>some ⟨λfr e s=>Bx P s.m t (gx fr e) (gy fr e)⟩|_,_=>none)
 | .entryStore _ x y z=>(match gv loc D m x,gv loc D m y,gv loc D m z with|some ⟨gx⟩,some ⟨gy⟩,some ⟨gz⟩=>some ⟨λfr e s=>wX s.m (gx fr e) (gy fr e) (gz fr e)⟩|_,_,_=>none)
 | .convert s t x=>(match gv loc D m x with|some ⟨gx⟩=>some ⟨λfr e S0=>wh P S0.m s t (gx fr e)⟩|none=>none)
 | .call {callee:= .builtin b,args:=xs,argTypes:=ts}=>(match gvs loc D m xs.toList with
  |some ⟨l⟩=>(match b with
   | .append=>(match ts.toList,xs.toList with
    |[t,u],[x,y]=>(match gv loc D m x,gv loc D m y with|some ⟨gx⟩,some ⟨gy⟩=>some ⟨λfr e s=>DD P t u s.m (gx fr e) (gy fr e) s.nx⟩|_,_=>none)
    |_,_=>none)
   |b=>some ⟨λfr e s=>zj P b ts.toList (l fr e) s.m s.nx⟩)
  |none=>none)
 |_=>none
def I5(op:Op):Option (OC γ α):=
 match op with
 | .store t x y=>(match gv loc D m x,gv loc D m y,qE P t with|some ⟨x⟩,some ⟨y⟩,some (_,sz)=>some ⟨λ_ fr e s K=>AN sz s (x fr e) (y fr e) K⟩|_,_,_=>none)
 | .alloc t=>frcV (wb P t) (λz=>some ⟨λ_ _ _ s K=>newF s z K⟩) none
 | .box _ x=>(match gv loc D m x with|some ⟨g⟩=>some ⟨λ_ fr e s K=>qK (g fr e) λv=>newF s v K⟩|none=>none)
 | .call {callee:= .value f,args:=xs,argTypes:=_}=>(match f with
  | .func g=>(match pr g with
   |some h=>(match gvs loc D m xs.toList,dfs loc D m xs.toList with|some ⟨l⟩,some ⟨d⟩=>some ⟨λ_ fr e s K=>d fr e (roK (h (l fr e) s) λv s=>qF v λv=>K v s)⟩|_,_=>none)
   |none=>(match Gp loc D m xs.toList,dfs loc D m xs.toList,rg with|some ⟨w⟩,some ⟨d⟩,⟨r⟩=>some ⟨λc fr e s K=>d fr e (roK (r c g (w fr e) xs.size s) K)⟩|_,_,_=>none))
  |f=>(match gv loc D m f,gvs loc D m xs.toList,dfs loc D m xs.toList,rg with
   |some ⟨f⟩,some ⟨l⟩,some ⟨d⟩,⟨r⟩=>some ⟨λc fr e s K=> @Option.rec (FuncId×List (Key×Nat)) (λ_=>RO) (.no [4]) (λp=>d fr e (roK ((λvs=>r c p.1 (jF vs).c0 vs.length s) (l fr e++p.2.map λp=> .pp p.1 p.2)) K)) (zf (f fr e))⟩
   |_,_,_,_=>none))
 |op=>(match A9 P loc D m op with|some ⟨h⟩=>some ⟨λ_ fr e s K=>roK (ap s (h fr e s)) λv s=>qF v λv=>K v s⟩|none=>none)
def Mf:PSigma λF=>F= @I5:=by
 delta I5
 try delta AJ
 try delta BR
 try delta layF
 try delta AN
 try delta newF
 try delta BV
 try delta nxD
 try delta setS
 try delta roK
 try delta kbB
 try delta kbR
 try delta nnK
 try delta jf
 try delta notB
 try delta kbB
 try delta kbR
 try delta qNN
 try delta qN
 try delta qP
 try delta qS
 try delta qB
 try delta qG
 try delta qD
 try delta qF
 try delta qC
 try delta qZ
 try delta qX
 try delta qT
 try delta qK
 try delta ld1
 try delta ldA
 try delta stV
 try delta uAt
 try delta Dh
 try delta uAt3
 try delta CM
 try delta Di
 try delta Dj
 try delta zA
 try delta AH
 try delta mg1
 try delta mg2
 try delta mg3
 try delta mg4
 try delta ms1
 try delta ms2
 try delta ms3
 try delta ms4
 try delta Env16.lo
 try delta Env16.hi
 try delta S.m
 try delta S.nx
 try delta Fm.v
 try delta Fm.r
 try delta Fs.s
 try delta Fs.r
 try delta LC.ih
 try delta LC.up
 try delta Rc.call
 try delta CF.f
 try delta CK.f
 try delta N16.c0
 try delta N16.c1
 try delta N16.c2
 try delta N16.c3
 try delta N16.c4
 try delta N16.c5
 try delta N16.c6
 try delta N16.c7
 try delta N16.c8
 try delta N16.c9
 try delta N16.c10
 try delta N16.c11
 try delta N16.c12
 try delta N16.c13
 try delta N16.c14
 try delta N16.c15
 exact⟨_,rfl⟩
def Lp(op:Op):Option (OC γ α):=Mf.1 P pr rg loc D m op
def I6(o:Oper):CF γ α:=
 match(match o.op with| .move x=>src loc D m x| .assign x=>src loc D m x|_=>none)with
 |some x=>finM loc D m k o.dst x
 |none=>(match Qj P loc D m o.op with
  |some h=>finV loc D m k o.dst h
  |none=>(match Lp P pr rg loc D m o.op with
   |some h=>finO loc D m k o.dst h
   |none=>badC))
def isS(op:Op):Bool:=match op with| .slice _ _ (some _) (some _) _=>true|_=>false
def Lq(op:Op):Option (HK α):=
 match op with
 | .slice t x (some l) (some h) none=>(match gv loc D m x,gv loc D m l,gv loc D m h with|some ⟨gx⟩,some ⟨gl⟩,some ⟨gh⟩=>some ⟨λfr e s=>Ca P s.m t (gx fr e) (gl fr e) (gh fr e)⟩|_,_,_=>none)
 | .slice t x (some l) (some h) (some z)=>(match gv loc D m x,gv loc D m l,gv loc D m h,gv loc D m z with|some ⟨gx⟩,some ⟨gl⟩,some ⟨gh⟩,some ⟨gz⟩=>some ⟨λfr e _=>DF P t (gx fr e) (gl fr e) (gh fr e) (gz fr e)⟩|_,_,_,_=>none)
 |_=>none
def Jg(o:Oper):CF γ α:=
 bif isS o.op then(match Lq P loc D m o.op with
  |some ⟨h⟩=>finO loc D m k o.dst ⟨λ_ fr e s K=>roK (ap s (h fr e s)) λv s=>qF v λv=>K v s⟩
  |none=>badC)else I6 P pr rg loc D m k o
def gdC0(all:List Oper)(o:Oper)(run skip:CF γ α):CF γ α:=
 match o.guard with
 |none=>run
 |some (j,w)=>(match(all[j]?).bind (·.dst)with
  |some t=>(match gv loc D m (.tmp t)with
   |some ⟨g⟩=>(match o.dst with
    |some d=>bif Nat.testBit loc d then badC else(match sT d with
     |⟨st⟩=>⟨λc fr e s=>qG (g fr e) (λb=> @Bool.rec (λ_=>RO) (skip.f c fr (st (.tu []) e) s) (run.f c fr e s) (@Bool.rec (λ_=>Bool) (notB b) b w)) (skip.f c fr (st (.tu []) e) s)⟩)
    |none=>⟨λc fr e s=>qG (g fr e) (λb=> @Bool.rec (λ_=>RO) (skip.f c fr e s) (run.f c fr e s) (@Bool.rec (λ_=>Bool) (notB b) b w)) (skip.f c fr e s)⟩)
   |none=>badC)
  |none=>badC)
def gdCP:PSigma λF=>F= @gdC0:=by
 delta gdC0
 try delta AJ
 try delta BR
 try delta layF
 try delta AN
 try delta newF
 try delta BV
 try delta nxD
 try delta setS
 try delta roK
 try delta kbB
 try delta kbR
 try delta nnK
 try delta jf
 try delta notB
 try delta kbB
 try delta kbR
 try delta qNN
 try delta qN
 try delta qP
 try delta qS
 try delta qB
 try delta qG
 try delta qD
 try delta qF
 try delta qC
 try delta qZ
 try delta qX
 try delta qT
 try delta qK
 try delta ld1
 try delta ldA
 try delta stV
 try delta uAt
 try delta Dh
 try delta uAt3
 try delta CM
 try delta Di
 try delta Dj
 try delta zA
 try delta AH
 try delta mg1
 try delta mg2
 try delta mg3
 try delta mg4
 try delta ms1
 try delta ms2
 try delta ms3
 try delta ms4
 try delta Env16.lo
 try delta Env16.hi
 try delta S.m
 try delta S.nx
 try delta Fm.v
 try delta Fm.r
 try delta Fs.s
 try delta Fs.r
 try delta LC.ih
 try delta LC.up
 try delta Rc.call
 try delta CF.f
 try delta CK.f
 try delta N16.c0
 try delta N16.c1
 try delta N16.c2
 try delta N16.c3
 try delta N16.c4
 try delta N16.c5
 try delta N16.c6
 try delta N16.c7
 try delta N16.c8
 try delta N16.c9
 try delta N16.c10
 try delta N16.c11
 try delta N16.c12
 try delta N16.c13
 try delta N16.c14
 try delta N16.c15
 exact⟨_,rfl⟩
def gdC(all:List Oper)(o:Oper)(run skip:CF γ α):CF γ α:=gdCP.1 loc D m all o run skip
def skD(dst:Option Tmp):Nat:=match dst with|some t=>D|||2^t|none=>D
def skM(dst:Option Tmp):Mp α:=match dst with|some t=>zJ t m|none=>m
def I3(all:List Oper)(o:Oper):CF γ α:=gdC loc D m all o (I6 P pr rg loc D m k o) (k α id (skM m o.dst) (skD D o.dst))
def I4(all:List Oper)(o:Oper):CF γ α:=gdC loc D m all o (Jg P pr rg loc D m k o) (k α id (skM m o.dst) (skD D o.dst))
end
section
variable {γ:Type} (P:Program) (pr:vE) (rg:RG γ) (loc:Nat) (nrm:CK γ)
def C1(all:List Oper)(l:List Oper):(β:Type)->Mp β->Nat->CF γ β:=
 @List.rec Oper (λ_=>(β:Type)->Mp β->Nat->CF γ β) (λ_ _ _=>match nrm with|⟨f⟩=>⟨λc _ e s=>f c e s⟩) (λo _ ih=>λα m D=>I4 P pr rg loc D m (λβ _ m D=>ih β m D) all o) l
def Qi(D:Nat)(ops:List Oper):CK γ:=match C1 P pr rg loc nrm ops ops Unit [] D with|⟨f⟩=>⟨λc e s=>tramp (f c () e s)⟩
structure Fs (α:Type) where
 s:S
 r:α
def Src.us{α:Type}(x:Src α):Src (Fs α):=match x with| .c v=> .c v| .g d n f=> .g d n (λfr e=>f fr.r e)| .dead=> .dead
def GS.by{α β:Type}(g:GS α)(p:β->α):GS β:=match g with|⟨f⟩=>⟨λfr=>f (p fr)⟩
end
def keyB(a b:Key):Bool:=jf (Nat.beq a.d.n b.d.n) (jf (Nat.beq a.c.n b.c.n) (jf (Nat.beq a.b.n b.b.n) (Nat.beq a.a.n b.a.n)))
def Qd(a b:Bool):Bool:= @Bool.rec (λ_=>Bool) (@Bool.rec (λ_=>Bool) true false b) b a
def HW(a b:V):Bool:=
 match a,b with
 | .nn k n,.nn k' n'=>jf (keqF k k') (Nat.beq n n')
 | .zz k n,.zz k' n'=>jf (keqF k k') (Nat.beq n n')
 | .bb x,.bb y=>Qd x y
 | .qq s n d,.qq s' n' d'=>jf (Qd s s') (jf (Nat.beq n n') (Nat.beq d d'))
 | .mg n,.mg n'=>Nat.beq n n'
 | .pp k o,.pp k' o'=>jf (keyB k k') (Nat.beq o o')
 | .ee k i o w,.ee k' i' o' w'=>jf (keyB k k') (jf (Nat.beq i i') (jf (Nat.beq o o') (Nat.beq w w')))
 | .sl k lo n c w,.sl k' lo' n' c' w'=>jf (keyB k k') (jf (Nat.beq lo lo') (jf (Nat.beq n n') (jf (Nat.beq c c') (Nat.beq w w'))))
 | .gs k lo n w,.gs k' lo' n' w'=>jf (keyB k k') (jf (Nat.beq lo lo') (jf (Nat.beq n n') (Nat.beq w w')))
 | .mm k,.mm k'=>keyB k k'
 | .uu (.slice none a b),.uu (.slice none a' b')=>jf (Nat.beq a a') (Nat.beq b b')
 | .uu (.pointer none),.uu (.pointer none)=>true
 | .dl,.dl=>true
 | .st l,.st l'=>beqN l l'
 | .lp n i,.lp n' i'=>jf (Nat.beq n n') (Nat.beq i i')
 |_,_=>false
def Ll:List V->List V->Bool
 |[],[]=>true
 |a::l,b::r=>jf (HW a b) (Ll l r)
 |_,_=>false
def beqV(a b:V):Bool:=
 match a,b with
 | .ag w l,.ag w' l'=>jf (Nat.beq w w') (Ll l l')
 |a,b=>HW a b
structure LD (α:Type) where
 i:Nat
 sk:Bool
 f:α->qR->KR
 v:α->V
def LD.by{α β:Type}(d:LD α)(p:β->α):LD β:=match d with|⟨i,sk,f,v⟩=>⟨i,sk,λfr=>f (p fr),λfr=>v (p fr)⟩
def agF(r:KR)(v:V)(z:RO):RO:= @Bool.rec (λ_=>RO) (.no [101]) z (beqV r.res v)
structure ZL (α:Type) where
 f:α->List Key
structure BL (α:Type) where
 f:α->S->RO->RO
def zGet{α:Type}(hs:List (Option (GS α))):List Nat->Option (ZL α)
 |[]=>some ⟨λ_=>[]⟩
 |u::us=>match(hs[u]?).join,zGet hs us with
  |some ⟨g⟩,some ⟨l⟩=>some ⟨λfr=>(g fr).nx::l fr⟩
  |_,_=>none
def Ie{α:Type}(i:Nat):List (LD α)->Option (LD α)
 |[]=>none
 |d::r=>bif Nat.beq d.i i then some d else Ie i r
def chkL{α:Type}(n:Nat)(hs:List (Option (GS α)))(ld:List (LD α)):List (Nat×Nat)->Option (BL α)
 |[]=>some ⟨λ_ _ z=>z⟩
 |q::r=>match Ie q.1 ld,(hs[q.2]?).join,chkL n hs ld r with
  |some ⟨_,sk,f,v⟩,some ⟨g⟩,some ⟨b⟩=>bif sk then some ⟨b⟩else(bif Nat.beq (q.2+1) n then
    some ⟨λfr s z=>agF (f fr (g fr).m) (v fr) (agF (f fr s.m) (v fr) (b fr s z))⟩
   else(match(hs[q.2+1]?).join with
    |some ⟨g'⟩=>some ⟨λfr s z=>agF (f fr (g fr).m) (v fr) (agF (f fr (g' fr).m) (v fr) (b fr s z))⟩
    |none=>none))
  |_,_,_=>none
def XC(s:S)(z:List Key)(s2:S):S:=⟨reK s.m s2.m z,s2.nx,s2.dn,s2.sc⟩
section
variable {γ:Type} (P:Program) (pr:vE) (rg:RG γ) (loc:Nat) (nrm:CK γ)
abbrev CP(γ:Type):=(β:Type)->Mp β->Nat->List (Option (GS β))->List (LD β)->CF γ β
def Xv(P:Program)(all:List Oper)(M:List Nat)(i:Nat):Bool:=
 (ldP P all M).any (λq=>Nat.beq q.2 i||Nat.beq (q.2+1) i)||(List.range all.length).any λj=>(unz P all M j).any λu=>Nat.beq u i
structure R2 (α:Type) where
 a:α->Env16->V
 b:α->Env16->V
 f:V->V->qR->KR
def rdC{α:Type}(m1:Mp α)(D:Nat)(op:Op):Option (R2 α):=
 match op with
 | .load t x=>(match gv loc D m1 x with|some ⟨g⟩=>some ⟨g,λ_ _=> .bb true,λa _ m=>v4 P m t a⟩|none=>none)
 | .lookup t x y cm=>(match gv loc D m1 x,gv loc D m1 y with|some ⟨gx⟩,some ⟨gy⟩=>some ⟨gx,gy,λa b m=>vC P m t cm a b⟩|_,_=>none)
 |_=>none
def isRd(op:Op):Bool:=match op with| .load .. =>true| .lookup .. =>true|_=>false
def Mh (all : List Oper) (i : Nat) (o : Oper) (rest : CP γ) {α : Type} (m1 : Mp α) (D : Nat) (hs1 : List (Option (GS α))) (ld1 : List (LD α)) (us : List Nat) : CF γ α :=
 match rdC P loc m1 D o.op, zGet hs1 us with
 | some ⟨ga, gb, f⟩, some ⟨zg⟩ => gdC loc D m1 all o
   (match finV loc D (upM (upM (upM m1))) (λβ pr mβ Dβ => rest β mβ Dβ (hs1.map λh => h.map λh => h.by λx => (pr x).r.r.r) (⟨i, false, λfr m => f (pr fr).r.r.v (pr fr).r.v m, λfr => (pr fr).v⟩ :: ld1.map λh => h.by λx => (pr x).r.r.r)) o.dst ⟨λfr _ _ K => K fr.v⟩ with
    | ⟨k⟩ => ⟨λc fr e s => qF (ga fr e) λa => qF (gb fr e) λb => qF (f a b (rmK s.m (zg fr))).res λv => k c ⟨v, ⟨b, ⟨a, fr⟩⟩⟩ e s⟩)
   (rest α (skM m1 o.dst) (skD D o.dst) hs1 (⟨i, true, λ_ _ => .bad, λ_ => .und⟩ :: ld1))
 | _, _ => badC
def AT(all:List Oper)(M:List Nat)(i:Nat)(o:Oper)(rest:CP γ){α:Type}(m1:Mp α)(D:Nat)(hs1:List (Option (GS α)))(ld1:List (LD α)):CF γ α:=
 bif isRd o.op then(match unz P all M i,(ldP P all M).any (λq=>Nat.beq q.1 i)with
  |[],false=>I3 P pr rg loc D m1 (λβ pr mβ Dβ=>rest β mβ Dβ (hs1.map λh=>h.map λh=>h.by pr) (ld1.map λh=>h.by pr)) all o
  |us,_=>Mh P loc all i o rest m1 D hs1 ld1 us)
 else(match unz P all M i with
  |[]=>I3 P pr rg loc D m1 (λβ pr mβ Dβ=>rest β mβ Dβ (hs1.map λh=>h.map λh=>h.by pr) (ld1.map λh=>h.by pr)) all o
  |us=>(match Lp P pr rg loc D m1 o.op,zGet hs1 us with
   |some ⟨h⟩,some ⟨zg⟩=>gdC loc D m1 all o (finO loc D m1 (λβ pr mβ Dβ=>rest β mβ Dβ (hs1.map λh=>h.map λh=>h.by pr) (ld1.map λh=>h.by pr)) o.dst
     ⟨λc fr e s K=>(λz=>h c fr e ⟨rmK s.m z,s.nx,s.dn,s.sc⟩ λv s2=>K v (XC s z s2)) (zg fr)⟩)
    (rest α (skM m1 o.dst) (skD D o.dst) hs1 ld1)
   |_,_=>badC))
def G0(all:List Oper)(M:List Nat)(i:Nat)(o:Oper)(rest:CP γ){α:Type}(m:Mp α)(D:Nat)(hs:List (Option (GS α)))(ld:List (LD α)):CF γ α:=
 bif Xv P all M i then(match AT P pr rg loc all M i o rest (m.map λp=>(p.1,p.2.us)) D ((hs.map λh=>h.map λh=>h.by λf=>f.r)++[some ⟨λfr=>fr.s⟩]) (ld.map λh=>h.by λf=>f.r)with
  |⟨f⟩=>⟨λc fr e s=>f c ⟨s,fr⟩ e s⟩)
 else AT P pr rg loc all M i o rest m D (hs++[none]) ld
def Dw(all:List Oper)(M:List Nat)(l:List Oper):Nat->CP γ:=
 @List.rec Oper (λ_=>Nat->CP γ)
  (λ_ _ _ _ hs ld=>match chkL all.length hs ld (ldP P all M),nrm with|some ⟨b⟩,⟨f⟩=>⟨λc fr e s=>b fr s (f c e s)⟩|none,_=>badC)
  (λo _ ih=>λi β m D hs ld=>G0 P pr rg loc all M i o (ih (i+1)) m D hs ld) l
def Qf(D:Nat)(ops:List Oper):CK γ:=
 (λM=>(match Dw P pr rg loc nrm ops M ops 0 Unit [] D [] []with|⟨f⟩=>(⟨λc e s=>tramp (f c () e s)⟩:CK γ))) (masks 0 ops [])
end
def badK{γ:Type}:CK γ:=⟨λ_ _ _=> .no [99]⟩
abbrev Exs(γ:Type):=List (Nat×CK γ)
def wu{γ:Type}(i:Nat):Exs γ->CK γ
 |[]=>badK
 |p::r=>bif Nat.beq p.1 i then p.2 else wu i r
def CK.lift{γ:Type}(x:CK γ):CK (LC γ):=match x with|⟨f⟩=>⟨λc e s=>f c.up e s⟩
def RG.lift{γ:Type}(x:RG γ):RG (LC γ):=match x with|⟨f⟩=>⟨λc=>f c.up⟩
abbrev Den:=(γ:Type)->RG γ->Nat->CK γ->Exs γ->CK γ->CK γ
def wP(f:(Env16->S->RO)->Env16->S->RO)(n:Nat):Env16->S->RO:= @Nat.rec (λ_=>Env16->S->RO) (λ_ _=> .no [7]) (λ_ ih e s=>f ih e s) n
section
variable (P:Program) (pr:vE) (loc:Nat)
def labC(c:Code):Option Nat:=
 @Code.rec (λ_=>Option Nat) none (λ_ _ _=>none) (λ_ _ a b=>match a with|some l=>some l|none=>b) (λ_ _ _ _ _=>none) (λ_ _ _=>none) (λ_ _=>none)
  (λ_ _ _ _ _ _=>none) (λ_=>none) (λ_ _=>none) (λl=>some l) (λ_=>none) none (λ_=>none) c
def noG{γ:Type}:Exs γ->Bool
 |[]=>true
 |p::r=>Nat.blt p.1 1048576&&noG r
def exG{γ:Type}(l:Nat)(ex:Exs γ):Exs (LC γ):=(1048576+l,⟨λc e s=>tramp (c.ih e s)⟩)::ex.map λp=>(p.1,p.2.lift)
def scK{γ:Type}(b:Bool)(x y:CK (LC γ)):CK γ:=
 match b,x,y with
 |true,⟨f0⟩,⟨f1⟩=>⟨λc e s=>f0 ⟨wP (λih e s=>f1 ⟨ih,c⟩ e s) 1000000,c⟩ e s⟩
 |false,_,_=>badK
structure DenS where
 d:Den
 o:Nat->Nat
 f:Nat->Option Den
def fden (c : Code) : DenS :=
 @Code.rec (λ_ => DenS)
  ⟨λ_ _ _ nrm _ _ => nrm, λD => D, λ_ => none⟩
  (λ_ ops dr => ⟨λγ rg D nrm _ _ => @Bool.rec (λ_ => CK γ) (Qi P pr rg loc nrm D ops.toList) (Qf P pr rg loc nrm D ops.toList) dr, λD => ops.toList.foldl (λD o => skD D o.dst) D, λ_ => none⟩)
  (λ_ _ ha hb => ⟨λγ rg D nrm ex ret => ha.d γ rg D (hb.d γ rg (ha.o D) nrm ex ret) ex ret, λD => hb.o (ha.o D), λl => match ha.f l with
   | some g => some (λγ rg D nrm ex ret => g γ rg D (hb.d γ rg D nrm ex ret) ex ret)
   | none => hb.f l⟩)
  (λx _ _ ha hb => ⟨λγ rg D nrm ex ret => match gv (α := Unit) loc D [] x, ha.d γ rg D nrm ex ret, hb.d γ rg D nrm ex ret with
   | some ⟨g⟩, ⟨fa⟩, ⟨fb⟩ => ⟨λc e s => qB (g () e) λb => @Bool.rec (λ_ => RO) (fb c e s) (fa c e s) b⟩
   | none, _, _ => badK, λD => D, λ_ => none⟩)
  (λid _ h => ⟨λγ rg D nrm ex ret => h.d γ rg D nrm ((id, nrm) :: ex) ret, λD => D, λ_ => none⟩)
  (λ_ h => ⟨λγ rg D nrm ex ret => match h.d (LC γ) rg.lift D ⟨λc e s => tramp (c.ih e s)⟩ (ex.map λp => (p.1, p.2.lift)) ret.lift with
   | ⟨f⟩ => ⟨λc e s => wP (λih e s => f ⟨ih, c⟩ e s) 1000000 e s⟩, λD => D, λ_ => none⟩)
  (λ_ _ _ _ _ _ => ⟨λ_ _ _ _ _ _ => badK, λD => D, λ_ => none⟩)
  (λid => ⟨λ_ _ _ _ ex _ => wu id ex, λD => D, λ_ => none⟩)
  (λc h => ⟨λγ rg D nrm ex ret => match labC c with
   | some l => (match h.f l with
    | some g => scK (noG ex) (h.d (LC γ) rg.lift D nrm.lift (exG l ex) ret.lift) (g (LC γ) rg.lift D nrm.lift (exG l ex) ret.lift)
    | none => badK)
   | none => badK, λD => D, λ_ => none⟩)
  (λl' => ⟨λ_ _ _ nrm _ _ => nrm, λD => D, λl => bif Nat.beq l' l then some (λ_ _ _ nrm _ _ => nrm) else none⟩)
  (λl => ⟨λ_ _ _ _ ex _ => wu (1048576 + l) ex, λD => D, λ_ => none⟩)
  ⟨λ_ _ _ _ _ ret => ret, λD => D, λ_ => none⟩
  (λ_ => ⟨λ_ _ _ _ _ _ => badK, λD => D, λ_ => none⟩) c
structure RV where
 f:Env16->S->(V->RO)->RO
def resC(r:ResultVar):Option RV:=
 match r with
 | .tmp t=>(match gv (α:=Unit) loc 0 [] (.tmp t)with|some ⟨g⟩=>some ⟨λe s K=>qK (g () e) K⟩|none=>none)
 | .cell a t=>(match gv (α:=Unit) loc 0 [] (.tmp a),qE P t with|some ⟨g⟩,some (gg,sz)=>bif gg||Nat.beq sz 1 then some ⟨λe s K=>BR gg sz s.m (g () e) λv=>qK v K⟩else none|_,_=>none)
structure RL where
 f:Env16->S->(List V->RO)->RO
def resL:List ResultVar->Option RL
 |[]=>some ⟨λ_ _ K=>K []⟩
 |r::l=>match resC P loc r,resL l with
  |some ⟨g⟩,some ⟨h⟩=>some ⟨λe s K=>g e s λv=>h e s λl=>K (v::l)⟩
  |_,_=>none
def retC{γ:Type}(l:List ResultVar):CK γ:=
 match l with
 |[r]=>(match resC P loc r with|some ⟨g⟩=>⟨λ_ e s=>g e s λv=> .ok v s⟩|none=>badK)
 |l=>(match resL P loc l with|some ⟨g⟩=>⟨λ_ e s=>g e s λl=> .ok (.tu l) s⟩|none=>badK)
structure FnC where
 g:Rc->Row->Nat->S->RO
def qy:Row:=⟨.und,.und,.und,.und,.und,.und,.und,.und,.und,.und,.und,.und,.und,.und,.und,.und⟩
def hiU:N16 (N16 V):=⟨qy,qy,qy,qy,qy,qy,qy,qy,qy,qy,qy,qy,qy,qy,qy,qy⟩
def rowL(w:Row):Nat->List V:=λn=>[w.c0,w.c1,w.c2,w.c3,w.c4,w.c5,w.c6,w.c7,w.c8,w.c9,w.c10,w.c11,w.c12,w.c13,w.c14,w.c15].take n
end
def Lk:RG Rc:=⟨λc f w n s=>c.call f w n s⟩
def fnC(P:Program)(pr:vE)(tb:FuncId->Nat)(f:FuncId):FnC:=
 match pr f with
 |some g=>⟨λ_ w n s=> @Bool.rec (λ_=>RO) (.no [17]) (roK (g (rowL w n) s) λv s=>qF v λv=> .ok v s) (Nat.ble n 16)⟩
 |none=>(match P.funcs[f]? with
  |some fn=>(match fn.body with
   |some c=>bif qV fn.ntmps c&&BA fn then(match retC P (tb f) fn.results.toList with
    |ret=>(match(fden P pr (tb f) c).d Rc Lk (2^fn.params.size-1) ret [] ret with
     |⟨run⟩=>⟨λrc w n s=> @Bool.rec (λ_=>RO) (.no [17]) (run rc ⟨⟨w,qy,qy,qy,qy,qy,qy,qy,qy,qy,qy,qy,qy,qy,qy,qy⟩,hiU⟩ s) (jf (Nat.ble n (Nat.min 16 fn.ntmps)) (Nat.ble fn.params.size n))⟩))else⟨λ_ _ _ _=> .no [100]⟩
   |none=>⟨λ_ _ _ _=> .no [100]⟩)
  |none=>⟨λ_ _ _ _=> .no [100]⟩)
def Ln(P:Program)(pr:vE)(tb:FuncId->Nat)(n:Nat):Rc:= @Nat.rec (λ_=>Rc) ⟨λ_ _ _ _=> .no [14]⟩ (λ_ ih=>⟨λf w n s=>(fnC P pr tb f).g ih w n s⟩) n
end
noncomputable section
section
variable {D:List Int} {P:Program}
theorem G2{E:Env}{σ:FS}{a:Act}{w:World}{H:Heap}{β:Bm}{e:Env16}{m:qR}(h:RepF E σ a w H β){x:Operand}(hx:qb e x≠ .und)(hσ: ∀t,x= .tmp t->σ (2*t)=qo D e m (2*t)):
  (qp D (qb e x)).sat β H (a.eval x):=by
 cases x with
 |tmp t=>
  have h1:=hσ t rfl;rw[qA]at h1;have hne:slot e t≠ .und:=hx
  have hav: ∃av,(slot e t).av D=some av:=by
   rcases V.av_or (D:=D) (slot e t)with e1|⟨l,e1⟩|e1
   .exact absurd e1 hne
   .rw[e1];exact⟨_,rfl⟩
   .exact⟨_,e1⟩
  obtain⟨av,hav⟩:=hav;rw[hav]at h1;obtain⟨v,hv,hs⟩:=h.slot t av h1;have:a.eval (.tmp t)=v:=by simp[Act.eval,Array.getD_eq_getD_getElem?,hv]
  rw[this];show(qp D (slot e t)).sat β H v;rw[qp,hav];exact hs
 |const v=>
  have hne:jR v≠ .und:=hx;obtain⟨h1,h2⟩:=wm (D:=D) hne β H;show(qp D (jR v)).sat β H v;rw[wI h1];exact h2
 |func f=>exact⟨rfl,rfl⟩
 |global g=>exact absurd rfl hx
theorem Ia{e:Env16}(h: ∀t,(slot e t).ok)(x:Operand):(qb e x).ok:=by
 cases x with
 |tmp t=>exact h t
 |const v=>
  show(jR v).ok;by_cases hne:jR v= .und
  .rw[hne];trivial
  .exact V.okC_ok (wm (D:=[]) hne (λ_=>none) (λ_=>none)).1
 |func f=>exact rfl
 |global g=>trivial
theorem Ka{α β:Type}{f:α->β}: ∀{l:List α}{p:α×β},p∈List.zip l (l.map f)->p.1∈l/\p.2=f p.1
 |[],p,h=>by simp at h
 |a::l,p,h=>by
  simp only[q5h,List.zip_cons_cons]at h;rcases q5j.1 h with rfl|h
  .exact⟨q5l,rfl⟩
  .obtain⟨h1,h2⟩:=Ka h;exact⟨q5k _ h1,h2⟩
theorem Bh{t:Nat}: ∀{l:List Operand},Operand.tmp t∈l->2*t∈je l
 |[],h=>by simp at h
 |x::l,h=>by
  rcases q5j.1 h with e|h
  .subst e;simp[je]
  .have:=Bh h
   cases x<;>simp[je,this]
def apM(D:List Int)(m:qR)(d:Key):KR->qR
 | .wr _ _ k b=>mset m k (some b)
 | .nw _ _ b=>mset m d (some b)
 | .mv _ _ k b=>mset (mset m k none) d (some b)
 |_=>m
theorem lwM{m:qR}{d:Key}{r:KR}(hr: ∀v ks k b,r= .mv v ks k b->k≠d)(n:Nat):
  (match look (lw D d r) n with|some x=>x.map XV.bl|none=>(mblk m n).map λb=>XV.bl (b.blk D))=(mblk (apM D m d r) n).map λb=> .bl (b.blk D):=by
 cases r with
 |bad=>rfl
 |val v ks=>rfl
 |wr v ks k b=>
  simp only[lw,apM,look,Hi];by_cases e:n=k.num
  .subst e;simp
  .rw[if_neg e,j5 (λh=>e h.symm)];rfl
 |nw v ks b=>
  simp only[lw,apM,look,Hi];by_cases e:n=d.num
  .subst e;simp
  .rw[if_neg e,j5 (λh=>e h.symm)];rfl
 |mv v ks k b=>
  have hkd:=hr v ks k b rfl;simp only[lw,apM,look,Hi];by_cases e:n=d.num
  .subst e
   have:k.num≠d.num:=λh=>hkd (Key.num_inj h)
   rw[j5 this];simp
  .rw[if_neg e]
   by_cases e2:n=k.num
   .subst e2;simp
   .rw[if_neg e2,j5 (λh=>e2 h.symm),j5 (λh=>e h.symm)];rfl
theorem HA{e:Env16}{m:qR}{d:Key}{r:KR}{dst:Option Tmp}{v:V}(hv:v≠ .und)(hd: ∀t,dst=some t->t<512)(hr: ∀v ks k b,r= .mv v ks k b->k≠d):
  (qo D e m).upd (Wof dst (qp D v) (lw D d r))=qo D (jb e dst v) (apM D m d r):=by
 have hav:v.av D=some (qp D v):=by
  rcases V.av_or (D:=D) v with e1|⟨l,e1⟩|e1
  .exact absurd e1 hv
  .rw[e1];rfl
  .rw[qp,e1];rfl
 funext ℓ;rcases q5P ℓ with h|h
 .obtain⟨t,rfl⟩: ∃t,ℓ=2*t:=⟨ℓ/2,by omega⟩
  simp only[FS.upd,jW];rw[qA,qA]
  cases dst with
  |none=>simp[jb]
  |some d'=>
   show(match(if some d'=some t then some (some (XV.av (qp D v)))else none)with|some v=>v|none=>_)=((slot (eset e d' v) t).av D).map .av;rw[CJ v (hd d' rfl)];by_cases e1:t=d'
   .subst e1;simp[hav]
   .have e2: ¬(some d':Option Tmp)=some t:=λh=>e1 (Option.some.inj h).symm
    rw[if_neg e2,if_neg e1]
 .obtain⟨k,rfl⟩: ∃k,ℓ=2*k+1:=⟨ℓ/2,by omega⟩
  simp only[FS.upd,vd];rw[qf,qf,<-lwM (D:=D) hr k];cases look (lw D d r) k<;>rfl
theorem jV{e:Env16}{m:qR}{k:Key}{b:KB}(h:mget m k=some b):qo D e m (2*k.num+1)=some (.bl (b.blk D)):=by
 rw[qf,vq,h];rfl
def gslK(all:List Oper)(g:Option (Nat×Bool)):List Nat:=
 match g with
 |none=>[]
 |some (j,_)=>match(all[j]?).bind (·.dst)with
  |some t=>[2*t]
  |none=>[]
theorem FQ{E:Env}{σ:FS}{a:Act}{w:World}{H:Heap}{β:Bm}{e:Env16}{m:qR}{ops:Array Oper}{o:Oper}{g:Bool}(h:RepF E σ a w H β)
  (hg:jd ops.toList e o.guard=some g)(hσ: ∀ℓ∈gslK ops.toList o.guard,σ ℓ=qo D e m ℓ):Region.wanted o (yielded ops a.tmps)=g:=by
 unfold jd at hg;unfold Region.wanted;split at hg
 .rename_i e1
  rw[e1];simp only[q68]at hg;exact hg
 .rename_i j w e1
  rw[e1]at hσ⊢;simp only at hσ⊢
  have hy:yielded ops a.tmps j=(match((ops.toList[j]?).bind (·.dst)).bind (a.tmps[·]?)with|some (.bool b)=>some b|_=>none):=by
   unfold yielded;simp only[Array.getElem?_toList];rfl
  rw[hy];split at hg
  .rename_i t ht
   rw[ht];simp only[Option.bind_some];have h1:σ (2*t)=qo D e m (2*t):=hσ _ (by unfold gslK;simp only[ht];exact q5l);rw[qA]at h1;split at hg
   .rename_i b hb
    rw[hb]at h1;obtain⟨v,hv,hs⟩:=h.slot t _ h1;obtain⟨rfl,_⟩:=hs;rw[hv];cases b<;>cases w<;>simp at hg⊢ <;>exact hg
   .rename_i hb
    rw[hb]at h1;obtain⟨v,hv,arr,rfl,hs⟩:=h.slot t _ h1;rw[hv];simp only[q68]at hg;subst hg;rfl
   .cases hg
  .rename_i ht
   rw[ht];simp only[Option.bind_none];simp only[q68]at hg;subst hg;rfl
theorem KC{E:Env}{ops:Array Oper}{i:Nat}{o:Oper}{e:Env16}{m:qR}{lo hi:Nat}(ho:ops[i]?=some o)(hg:jd ops.toList e o.guard=some false)(hd: ∀t,o.dst=some t->t<E.n):
  GoodK P E ops i ⟨gslK ops.toList o.guard,Wof o.dst (qp D (.tu [])) [],[],[],none⟩ noAl lo hi (qo D e m):=by
 intro σ hs hσ a w H β K Q hrep hdom hK
 have hσ': ∀ℓ∈gslK ops.toList o.guard,σ ℓ=qo D e m ℓ:=λℓ hℓ=>by
  rcases hσ ℓ hℓ with h|⟨x,hx,_⟩
  .exact h
  .exact hx.elim
 have hw:=FQ (D:=D) hrep hg hσ';unfold wpOp;rw[ho];simp only[hw,q4S,if_false];refine hK _ w H β ?_ (λ_ _=>rfl);refine RepF.step (kin:=[]) (Lw:=[]) hrep (v:=undef) (by simpa[kwOf,qt,jr]using Step.refl hrep.hon) (BF _ _) (λk b hb=>by simp at hb) (λp hp=>by simp at hp) (λk hk=>by simp[jr]at hk) (λk hk=>by simp[qt]at hk) hd
theorem q0d{σ:FS}{E:Env}{a:Act}{w:World}{H:Heap}{β:Bm}(h:RepF E σ a w H β)(hs:Str σ){k:Nat}(hk:β k=none){ℓ:Nat}{x:XV}(hx:σ ℓ=some x):x.men k=false:=by
 cases hm:x.men k with
 |false=>rfl
 |true=>
  exfalso;rcases q5P ℓ with h1|h1
  .obtain⟨t,rfl⟩: ∃t,ℓ=2*t:=⟨ℓ/2,by omega⟩
   cases x with
   |av av=>
    obtain⟨v,_,hv⟩:=h.slot t av hx;exact(hs _ _ hx).2 β H v k hv hm hk
   |bl b=>have:=(hs _ _ hx).1;omega
  .obtain⟨q,rfl⟩: ∃q,ℓ=2*q+1:=⟨ℓ/2,by omega⟩
   cases x with
   |av av=>have:=(hs _ _ hx).1;omega
   |bl b=>exact(hs _ _ hx).2.1 β w H q k (h.blk q b hx) hm hk
theorem ML{kin:List (Nat×Blk)}{n:Nat}:(look kin n).isSome=true↔n∈kin.map (·.1):=by
 induction kin with
 |nil=>simp[look]
 |cons p r ih=>
  obtain⟨q,b⟩:=p;simp only[look,q5h,q5j];by_cases e:q=n
  .subst e;simp
  .rw[j5 e];simp only[cond_false,ih]
   constructor
   .exact .inr
   .rintro(h|h)
    .exact absurd h.symm e
    .exact h
theorem Mx {E : Env} {ops : Array Oper} {i : Nat} {o : Oper} {e : Env16} {m : qR} {d : Key} {r : KR} {al : Nat -> XV -> Prop} {hi : Nat} (ho : ops[i]? = some o) (hg : jd ops.toList e o.guard = some true) (hd : ∀ t, o.dst = some t -> t < E.n)
  (hal : ∀ ℓ x, al ℓ x -> ℓ % 2 = 1) (hne : ∀ x ∈ o.op.operands.toList, qb e x ≠ .und) (hks : ∀ p ∈ r.ks, mget m p.1 = some p.2) (hgood : r.good r.ks) (hfr : mget m d = none)
  (hop : ∀ kin : List (Nat × Blk), kin.map (·.1) = r.ks.map (·.1.num) -> (∀ p ∈ kin, qo D e m (2 * p.1 + 1) = some (.bl p.2) \/ al (2 * p.1 + 1) (XV.bl p.2)) ->
   OpK P o.op o.type (List.zip o.op.operands.toList (o.op.operands.toList.map λx => qp D (qb e x))) kin (qp D r.res) (lw D d r) d.num)
  (hhi : (∃ v ks b, r = .nw v ks b) \/ (∃ v ks k b, r = .mv v ks k b) -> d.num < hi) (hKs : ∀ k ∈ E.Ks, k < d.num) :
  GoodK P E ops i ⟨gslK ops.toList o.guard ++ je o.op.operands.toList ++ r.ks.map (λp => 2 * p.1.num + 1), Wof o.dst (qp D r.res) (lw D d r), [], [], none⟩ al d.num hi (qo D e m) := by
 intro σ hs hσ a w H β K Q hrep hdom hK
 have hsl : ∀ t, (2 * t ∈ gslK ops.toList o.guard \/ 2 * t ∈ je o.op.operands.toList) -> σ (2 * t) = qo D e m (2 * t) := λt ht => by
  rcases hσ (2 * t) (by simp only [q5i]; exact .inl ht) with h | ⟨x, hx, _⟩
  .exact h
  .have := hal _ _ hx; omega
 have hgs : ∀ ℓ ∈ gslK ops.toList o.guard, σ ℓ = qo D e m ℓ := λℓ hℓ => by
  have h2 : ∃ t, ℓ = 2 * t := by
   unfold gslK at hℓ;split at hℓ
   .simp at hℓ
   .split at hℓ
    .simp at hℓ; exact ⟨_, hℓ⟩
    .simp at hℓ
  obtain ⟨t, rfl⟩ := h2;exact hsl t (.inl hℓ)
 have hw := FQ (D := D) hrep hg hgs;unfold wpOp;rw [ho];simp only [hw, if_true];refine .inl ?_
 -- the blocks that are there
 have hpick : ∀ ks : List (Key × KB), (∀ p ∈ ks, p ∈ r.ks) -> ∃ kin : List (Nat × Blk), kin.map (·.1) = ks.map (·.1.num) /\ ∀ p ∈ kin, σ (2 * p.1 + 1) = some (.bl p.2) /\ (qo D e m (2 * p.1 + 1) = some (.bl p.2) \/ al (2 * p.1 + 1) (XV.bl p.2)) := by
  intro ks
  induction ks with
  | nil => intro _; exact ⟨[], rfl, λp hp => by simp at hp⟩
  | cons q ks ih =>
   intro hsub;obtain ⟨kin, h1, h2⟩ := ih λp hp => hsub p (q5k _ hp)
   have hq := hsub q q5l;have hb := jV (D := D) (e := e) (hks q hq);rcases hσ (2 * q.1.num + 1) (by simp only [q5i, List.mem_map]; exact .inr ⟨q, hq, rfl⟩) with h | ⟨x, hx, h⟩
   .refine ⟨(q.1.num, q.2.blk D) :: kin, by simp [h1], λp hp => ?_⟩
    rcases q5j.1 hp with rfl | hp
    .exact ⟨by rw [h, hb], .inl hb⟩
    .exact h2 p hp
   .have hty := hs _ _ h
    cases x with
    | av x => have := hty.1; omega
    | bl x =>
     refine ⟨(q.1.num, x) :: kin, by simp [h1], λp hp => ?_⟩;rcases q5j.1 hp with rfl | hp
     .exact ⟨h, .inr hx⟩
     .exact h2 p hp
 obtain ⟨kin, hk1, hk2⟩ := hpick r.ks λp hp => hp
 have hdn : d.num ∉ kin.map (·.1) := by
  rw [hk1];intro h;obtain ⟨p, hp, e1⟩ := List.mem_map.1 h;have := hks p hp;rw [Key.num_inj e1, hfr] at this; cases this
 have hlookd : look kin d.num = none := by
  cases hq : look kin d.num with
  | none => rfl
  | some x => exact absurd (ML.1 (by rw [hq]; rfl)) hdn
 have hkey : ∀ k b', (k, b') ∈ r.ks -> (look kin k.num).isSome = true := λk b' hkb => ML.2 (by rw [hk1]; exact List.mem_map.2 ⟨_, hkb, rfl⟩)
 have hkn : ∀ k ∈ qt kin (lw D d r), k = d.num /\ ((∃ v ks b, r = .nw v ks b) \/ (∃ v ks k b, r = .mv v ks k b)) := by
  intro k hk;simp only [qt, q5m, List.mem_map] at hk;obtain ⟨⟨p, ⟨hp, hps⟩, rfl⟩, hn⟩ := hk
  cases r with
  | bad => simp [lw] at hp
  | val v ks => simp [lw] at hp
  | wr v ks k b =>
   simp [lw] at hp;subst hp;obtain ⟨_, b', hb'⟩ := hgood;have := hkey k b' hb';simp only [Option.isNone_iff_eq_none] at hn;rw [hn] at this; cases this
  | nw v ks b =>
   simp [lw] at hp;subst hp;exact ⟨rfl, .inl ⟨_, _, _, rfl⟩⟩
  | mv v ks k b =>
   simp [lw] at hp;rcases hp with rfl | rfl
   .simp at hps
   .exact ⟨rfl, .inr ⟨_, _, _, _, rfl⟩⟩
 have hdnone : qt kin (lw D d r) ≠ [] -> β d.num = none := λh => by
  obtain ⟨k, hk⟩ := List.exists_mem_of_ne_nil _ h;obtain ⟨e1, e2⟩ := hkn k hk;exact hdom d.num (q5H _) (hhi e2)
 refine hop kin hk1 (λp hp => (hk2 p hp).2) o.dst o.pos o.after o.guard a w H β K Q ?_ ?_ ?_ hrep.hon hdnone ?_
 .intro p hp
  obtain ⟨h1, h2⟩ := Ka hp;rw [h2];refine G2 hrep (hne _ h1) λt ht => hsl t (.inr ?_)
  exact Bh (by rw [<- ht]; exact h1)
 .intro p hp
  exact ⟨hrep.blk _ _ (hk2 p hp).1, λb c hb => ⟨(hrep.own _ _ b c (hk2 p hp).1 hb).1, (hrep.own _ _ b c (hk2 p hp).1 hb).2.1⟩⟩
 .intro p hp p' hp' hne' b c c' hb
  exact hrep.inj _ _ _ _ b c c' (hk2 p hp).1 (hk2 p' hp').1 hne' hb
 .intro v w' H' β' hst hR hL
  refine hK _ w' H' β' ?_ ?_
  .refine RepF.step hrep hst hR hL (λp hp => (hk2 p hp).1) ?_ ?_ hd
   .intro k hk
    simp only [jr, List.mem_map, q5m] at hk;obtain ⟨p, ⟨hp, hps⟩, rfl⟩ := hk
    cases r with
    | bad => simp [lw] at hp
    | val v ks => simp [lw] at hp
    | wr v ks k b => simp [lw] at hp; subst hp; simp at hps
    | nw v ks b => simp [lw] at hp; subst hp; simp at hps
    | mv v ks k b =>
     simp [lw] at hp;rcases hp with rfl | rfl
     .obtain ⟨_, b', hb'⟩ := hgood
      exact ⟨hkey k b' hb', by simp [lw, look]⟩
     .simp at hps
   .intro k hk
    obtain ⟨e1, e2⟩ := hkn k hk;subst e1;refine ⟨λh => ?_, λℓ x hx _ => q0d hrep hs (hdom _ (q5H _) (hhi e2)) hx⟩;have := hKs _ h; omega
  .intro k hk
   refine hst.beta k λh => ?_
   obtain ⟨e1, e2⟩ := hkn k h;subst e1;rcases hk with hk | hk
   .omega
   .have := hhi e2; omega
end
end
noncomputable section
section
variable {D:List Int} {P:Program} {m:qR} {d:Key} {ty:TypeId}
theorem S4{w:World}{b off s j n c:Nat}{T:TypeId}{fz:Nat×Nat}{arr:Array Value}(hw:w.heap[b]?=some (.cells arr T fz))(hl:off+j*s<=arr.size):
  (Builtin.firstCells s j (.slice (some ⟨b,off,none⟩) n c)).run P w= .ok ((arr.toList.drop off).take (j*s)).toArray w:=by
 have hV:((arr.toList.drop off).take (j*s)).length=j*s:=by simp;omega
 have:=run_loadCells_list (P:=P) w ⟨b,off,none⟩ ((arr.toList.drop off).take (j*s)) (by
  intro i v hv;rw[jl,C0 hw]
  have hi:i<j*s:=by
   rcases q5L i (j*s)with h'|h'
   .exact h'
   .rw[q58 (by omega)]at hv;cases hv
  rw[q59 hi,q56]at hv
  simpa using hv)
 rw[hV]at this;simp only[Builtin.firstCells,this]
theorem bleF{a b:Nat}(h:Nat.ble a b=false): ¬a<=b:=λh'=>by rw[Nat.ble_eq_true_of_le h']at h;cases h
theorem Hu{es n:Nat}{q:Sq V}{kb:KB}{k:Nat}{β:Bm}{w:World}{H:Heap}(hkb:kb= .arr es n q\/kb= .gro es n q)(h:(kb.blk D).rep β w H k):
  ∃b c arr T,β k=some (b,c)/\w.heap[b]?=some (.cells arr T (0,0))/\(flat D (Sq.toL .und q 0 n)).length<=arr.size/\Sats β H (flat D (Sq.toL .und q 0 n)) (arr.toList.take (flat D (Sq.toL .und q 0 n)).length)\/
   (β k=none/\flat D (Sq.toL .und q 0 n)=[]):=by
 have hr: ∀cs:List Atom,(Blk.rigid cs).rep β w H k-> ∃b c arr T,β k=some (b,c)/\w.heap[b]?=some (.cells arr T (0,0))/\cs.length<=arr.size/\Sats β H cs (arr.toList.take cs.length):=by
  rintro cs ⟨b,c,arr,T,h1,h2,h3⟩
  have:=Sats.length h3;exact⟨b,c,arr,T,h1,h2,by simp at this;omega,by rw[this,q5t];exact h3⟩
 rcases hkb with rfl|rfl
 .obtain⟨b,c,arr,T,h1,h2,h3,h4⟩:=hr _ h
  exact⟨b,c,arr,T,.inl ⟨h1,h2,h3,h4⟩⟩
 .have h:(groB es (flat D (Sq.toL .und q 0 n))).rep β w H k:=h
  rcases Jn es (flat D (Sq.toL .und q 0 n))with e|e<;>rw[e]at h
  .obtain⟨b,c,arr,T,h1,h2,h3,h4⟩:=hr _ h
   exact⟨b,c,arr,T,.inl ⟨h1,h2,h3,h4⟩⟩
  .rcases h with⟨h1,h2⟩|⟨b,c,arr,T,h1,h2,_,h3,h4⟩
   .exact⟨0,0,#[],0,.inr ⟨h1,h2⟩⟩
   .exact⟨b,c,arr,T,.inl ⟨h1,h2,h3,h4⟩⟩
theorem Df{s:Nat}{v:V}{xs:List V}{ks:List (Key×KB)}(h:srcL m s v=some (xs,ks))(hm: ∀k b,mget m k=some b->b.ok):
  v.on=true/\okE s xs/\(∀p∈ks,mget m p.1=some p.2)/\ ∀(w:World)(H:Heap)(β:Bm)(yv:Value),(qp D v).sat β H yv->(∀p∈vn D ks,p.2.rep β w H p.1)->
   (Builtin.lenOf yv).run P w= .ok xs.length w/\ ∀j,j<=xs.length-> ∃arrx:Array Value,Sats β H (flat D (xs.take j)) arrx.toList/\arrx.size=j*s/\ ∀w':World,w'.heap=w.heap->(Builtin.firstCells s j yv).run P w'= .ok arrx w':=by
 have main: ∀{k:Key}{kb:KB}{es N lo n:Nat}{q:Sq V},kb= .arr es N q\/kb= .gro es N q->mget m k=some kb->lo+n<=N->es=s->okE s (Sq.toL .und q lo n)/\
   ∀(w:World)(H:Heap)(β:Bm)(b c c2:Nat),β k.num=some (b,c)->(kb.blk D).rep β w H k.num->
    (Builtin.lenOf (.slice (some ⟨b,lo*s,none⟩) n c2)).run P w= .ok (Sq.toL .und q lo n).length w/\ ∀j,j<=(Sq.toL .und q lo n).length-> ∃arrx:Array Value,Sats β H (flat D ((Sq.toL .und q lo n).take j)) arrx.toList/\arrx.size=j*s/\ ∀w':World,w'.heap=w.heap->(Builtin.firstCells s j (.slice (some ⟨b,lo*s,none⟩) n c2)).run P w'= .ok arrx w':=by
  intro k kb es N lo n q hkb hb hln hes;subst hes;have hbo:=hm k kb hb;have hL:okE es (Sq.toL .und q 0 N):=by rcases hkb with rfl|rfl<;>exact hbo.2
  have hcut:((Sq.toL .und q 0 N).drop lo).take n=Sq.toL .und q lo n:=NF _ _ hln;refine⟨by rw[<-hcut];exact Ao (Hp hL _) _,λw H β b c c2 hβ hrep=>⟨by simp[Builtin.lenOf,Sq.toL_len],λj hj=>?_⟩⟩;rw[Sq.toL_len]at hj;have hlen:=jG (D:=D) hL;rw[Sq.toL_len]at hlen;obtain⟨b',c',arr,T,h|h⟩:=Hu hkb hrep
  .obtain⟨h1,h2,h3,h4⟩:=h
   rw[hβ]at h1;cases h1
   have hfit:lo*es+j*es<=N*es:=by rw[<-q5y];exact q5V _ (by omega)
   refine⟨((arr.toList.drop (lo*es)).take (j*es)).toArray,?_,by simp;omega,λw' hw'=>S4 (by rw[hw'];exact h2) (by omega)⟩
   have e1:flat D ((Sq.toL .und q lo n).take j)=((flat D (Sq.toL .und q 0 N)).drop (lo*es)).take (j*es):=by
    rw[F7 hL lo (by rw[Sq.toL_len];omega),F8 (Hp hL lo) j (by rw[q5d,Sq.toL_len];omega),<-hcut,q5w,q5M hj]
   have e2:(arr.toList.drop (lo*es)).take (j*es)=((arr.toList.take (flat D (Sq.toL .und q 0 N)).length).drop (lo*es)).take (j*es):=by
    rw[List.drop_take,q5w,q5M (by omega)]
   rw[e1];show Sats β H _ ((arr.toList.drop (lo*es)).take (j*es));rw[e2];exact(h4.drop _).take _
  .rw[hβ]at h;cases h.1
 unfold srcL at h;split at h
 .cases h
  refine⟨rfl,λx hx=>by simp at hx,λp hp=>by simp at hp,λw H β yv hy _=>?_⟩;obtain⟨rfl,_⟩:=hy;refine⟨by simp[Builtin.lenOf],λj hj=>⟨#[],by simp[flat,Sats],by simp at hj;simp[hj],λw' _=>by simp[Builtin.firstCells]⟩⟩
 .rename_i k lo n c w0
  split at h
  .rename_i es N q hb
   cases hc:Nat.beq w0 es&&Nat.beq es s&&Nat.ble (lo+n) N with
   |false=>rw[hc]at h;cases h
   |true=>
    rw[hc]at h;simp only[q4R]at hc;have c1:=q5C hc.1.1;have c2:=q5C hc.1.2;have c3:lo+n<=N:=by simpa using hc.2
    cases h;obtain⟨m1,m2⟩:=main (.inl rfl) hb c3 c2;refine⟨rfl,m1,λp hp=>by simp at hp;subst hp;exact hb,λw H β yv hy hk=>?_⟩;obtain⟨b,c',hβ,rfl⟩:=hy;rw[c1,c2];exact m2 w H β b c' c hβ (hk (k.num,(KB.arr es N q).blk D) (by simp[vn]))
  .cases h
 .rename_i k lo n w0
  split at h
  .rename_i es N q hb
   cases hc:Nat.beq w0 es&&Nat.beq es s&&Nat.ble (lo+n) N with
   |false=>rw[hc]at h;cases h
   |true=>
    rw[hc]at h;simp only[q4R]at hc;have c1:=q5C hc.1.1;have c2:=q5C hc.1.2;have c3:lo+n<=N:=by simpa using hc.2
    cases h;obtain⟨m1,m2⟩:=main (.inr rfl) hb c3 c2;refine⟨rfl,m1,λp hp=>by simp at hp;subst hp;exact hb,λw H β yv hy hk=>?_⟩;obtain⟨b,c',hβ,hc',rfl⟩:=hy;rw[c1,c2];exact m2 w H β b c' (c'-lo) hβ (hk (k.num,(KB.gro es N q).blk D) (by simp[vn]))
  .cases h
 .cases h
  refine⟨rfl,λx hx=>by simp at hx,λp hp=>by simp at hp,λw H β yv hy _=>?_⟩;obtain⟨a,c,rfl⟩:=hy;refine⟨by simp[Builtin.lenOf],λj hj=>⟨#[],by simp[flat,Sats],by simp at hj;simp[hj],λw' _=>by simp at hj;subst hj;simp[Builtin.firstCells,loadCells,loadCellsFrom]⟩⟩
 .cases h
structure AppSrc (P:Program) (ts tx ty:TypeId) (yv:Value) (w:World) (s bytes m:Nat) (arrx:Array Value):Prop where
 room: ∀(base:Option Addr)(n cap:Nat),n+m<=cap->(Builtin.append_ #[ts,tx] ty #[.slice base n cap,yv]).run P w=
  (match base with|some p=>(storeCells (p.add (n*s)) arrx.toList).run P w|none=> .ok () w).andThen λ_ w'=> .ok (.slice base (n+m) cap) w'
 new: ∀(base:Option Addr)(n cap:Nat)(arro:Array Value),(∀w':World,w'.heap=w.heap->(Builtin.firstCells s n (.slice base n cap)).run P w'= .ok arro w')-> ¬n+m<=cap->(2*(n+m)+1000)*bytes<=281474976710656->
  ∃(c:Nat)(w1:World)(e:TypeId)(zc:Array Value),n+m<=c/\w1.heap=w.heap/\w1.os=w.os/\w1.tape=w.tape/\w1.output=w.output/\zc.size=s/\
   (Builtin.append_ #[ts,tx] ty #[.slice base n cap,yv]).run P w= .ok (.slice (some ⟨w.heap.size,0,none⟩) (n+m) c) (w1.alloc (.cells (arro++arrx++Builtin.zeroCells zc (c-(n+m))) e))
theorem KP{n m cap bytes:Nat}(hr: ¬n+m<=cap)(hb:(2*(n+m)+1000)*bytes<=281474976710656): ¬Builtin.nextslicecap (n+m) cap*bytes>2^48:=by
 have:=SV (n+m) cap (by omega);have h3:Builtin.nextslicecap (n+m) cap*bytes<=(2*(n+m)+1000)*bytes:=q5V _ this;omega
theorem LT {ts tx e ex : TypeId} {i : TypeInfo} {z : Value} {yv : Value} {w : World} {m : Nat} {arrx : Array Value} (h1 : P.underlying ts = some (.slice e)) (h2 : P.info? e = some i) (hz : i.zero = some z) (hzs : z.cells.size = i.size)
  (hby : 0 < i.bytes) (htx : P.underlying tx = some (.slice ex)) (hl : (Builtin.lenOf yv).run P w = .ok m w) (hf : ∀ w' : World, w'.heap = w.heap -> (Builtin.firstCells i.size m yv).run P w' = .ok arrx w') : AppSrc P ts tx ty yv w i.size i.bytes m arrx :=
 ⟨λbase n cap hr => AM h1 h2 htx hl (hf w rfl) hr, λbase n cap arro ho hr hb => by
  obtain ⟨c, w1, a1, a2, a3, a4, a5, a6⟩ := DT (P := P) (ty := ty) h1 h2 hz htx hl hf ho hr (by omega) (KP hr hb)
  exact ⟨c, w1, e, z.cells, a1, a2, a3, a4, a5, hzs, a6⟩⟩
theorem LU{ts tx e:TypeId}{i:TypeInfo}{z:Value}{w:World}{k k':IntKind}{m:Nat}(h1:P.underlying ts=some (.slice e))(h2:P.info? e=some i)(hz:i.zero=some z)(hzs:z.cells.size=i.size)(hs:0<i.size)
  (hby:0<i.bytes)(htx:P.underlying tx=some (.int k))(hm:m<1000000)(hmb:m*i.bytes<=281474976710656):AppSrc P ts tx ty (.int k' m) w i.size i.bytes m (Builtin.zeroCells z.cells m):=by
 have hw:IntKind.i64.wrap (m:Int)=(m:Int):=BH (by omega);have hneg: ¬((m:Int)<0):=by omega
 have hbig: ¬((m:Int)*(i.bytes:Int)>2^48):=by
  have:(m:Int)*i.bytes<=281474976710656:=by rw[<-q4U];exact Int.ofNat_le.2 hmb
  omega
 have hsrc: ∀w':World,(if m*i.size=0 then(pure #[]:Sem (Array Value))else do pure (Builtin.zeroCells (<-zeroValue e).cells m)).run P w'= .ok (Builtin.zeroCells z.cells m) w':=by
  intro w';by_cases h0:m*i.size=0
  .have:m=0:=by
    rcases Nat.mul_eq_zero.1 h0 with h|h
    .exact h
    .omega
   subst this;simp[Builtin.zeroCells]
  .simp only[h0,if_false,q6b,js h2 hz,q6a,q6c]
 refine⟨λbase n cap hr=>?_,λbase n cap arro ho hr hb=>?_⟩
 .simp only[Builtin.append_,q5a,q55,q54,q6b,qi h1,qi htx,q6a,jc h2,q6c,if_true,asInt,asIntOf,hw,hneg,if_false,vM h2,hbig,q4W,hr,Bool.not_true,q4S,hsrc]
  cases base<;>simp
 .refine⟨(Question.appendCap (n+m) cap e).cut (w.tape w.drawn (.appendCap (n+m) cap e)),{w with drawn:=w.drawn+1},e,z.cells,by simp[Question.cut],rfl,rfl,rfl,rfl,hzs,?_⟩
  have ho':=ho {w with drawn:=w.drawn+1} rfl;have hnb:=KP hr hb
  have hneed: ¬(((n+m:Nat):Int)>IntKind.i64.max):=by
   have h3:2*(n+m)+1000<=(2*(n+m)+1000)*i.bytes:=Nat.le_mul_of_pos_right _ hby;have:IntKind.i64.max=9223372036854775807:=by decide
   rw[this];omega
  simp only[Builtin.append_,q5a,q55,q54,q6b,qi h1,qi htx,q6a,jc h2,q6c,if_true,asInt,asIntOf,hw,hneg,if_false,vM h2,hbig,q4W,hr,Bool.not_true,q4S,hneed,false_and,hnb,run_choose,Question.forced,run_askRoom,ho',hsrc,js h2 hz,newRow,run_newObj];rfl
theorem Oc{ts tx:TypeId}{s b:Nat}{v:V}{xs:List V}{ks:List (Key×KB)}(hb:elB P ts=some (s,b))(hs:0<s)(hby:0<b)(hz:zOk P ts s=true)(h:LS P ts tx m s b v=some (xs,ks))(hm: ∀k b,mget m k=some b->b.ok):
  v.on=true/\okE s xs/\(∀p∈ks,mget m p.1=some p.2)/\ ∀(w:World)(H:Heap)(β:Bm)(yv:Value),(qp D v).sat β H yv->(∀p∈vn D ks,p.2.rep β w H p.1)->
   ∃arrx:Array Value,Sats β H (flat D xs) arrx.toList/\arrx.size=xs.length*s/\AppSrc P ts tx ty yv w s b xs.length arrx:=by
 have hsl: ∀v,(@Bool.rec (λ_=>Option (List V×List (Key×KB))) none (srcL m s v) (jv P tx))=some (xs,ks)->v.on=true/\okE s xs/\(∀p∈ks,mget m p.1=some p.2)/\ ∀(w:World)(H:Heap)(β:Bm)(yv:Value),(qp D v).sat β H yv->(∀p∈vn D ks,p.2.rep β w H p.1)->
   ∃arrx:Array Value,Sats β H (flat D xs) arrx.toList/\arrx.size=xs.length*s/\AppSrc P ts tx ty yv w s b xs.length arrx:=by
  intro v h
  cases hi:jv P tx with
  |false=>rw[hi]at h;cases h
  |true=>
   rw[hi]at h;obtain⟨a1,a2,a3,a4⟩:=Df (D:=D) (P:=P) h hm;refine⟨a1,a2,a3,λw H β yv hy hk=>?_⟩;obtain⟨b1,b2⟩:=a4 w H β yv hy hk;obtain⟨arrx,c1,c2,c3⟩:=b2 _ (q5H _);rw[q5t]at c1;unfold jv at hi;split at hi
   .rename_i ex htx
    unfold zOk at hz;split at hz
    .rename_i z hez
     obtain⟨e,i,h1,h2,rfl,rfl⟩:=zG hb;obtain⟨e',i',zv,h1',h2',hz',rfl⟩:=zS hez;rw[h1]at h1';cases h1'
     rw[h2]at h2';cases h2'
     exact⟨arrx,c1,c2,LT h1 h2 hz' (q5C hz) hby htx b1 c3⟩
    .cases hz
   .cases hi
 unfold LS at h;split at h
 .rename_i kk n
  cases hc:(intK P tx).isSome&&!isU (elV P ts)&&Nat.beq (elV P ts).size s&&Nat.blt n 1000000&&Nat.ble (n*b) 281474976710656 with
  |false=>rw[hc]at h;cases h
  |true=>
   rw[hc]at h;cases h;simp only[q4R,q4T]at hc;obtain⟨⟨⟨⟨c1,c2⟩,c3⟩,c4⟩,c5⟩:=hc;have c3:=q5C c3;have c4:n<1000000:=by simpa using c4
   have c5:n*b<=281474976710656:=by simpa using c5
   obtain⟨z,hez,hzs,hzo,hzc⟩:=Ec (D:=D) hb (zx c2) c3;obtain⟨e,i,h1,h2,rfl,rfl⟩:=zG hb;obtain⟨e',i',zv,h1',h2',hz',rfl⟩:=zS hez;rw[h1]at h1';cases h1'
   rw[h2]at h2';cases h2'
   have htx: ∃k,P.underlying tx=some (.int k):=by
    unfold intK at c1;split at c1
    .rename_i k hk;exact⟨k,hk⟩
    .cases c1
   obtain⟨k,htx⟩:=htx;refine⟨rfl,λx hx=>by rw[(List.mem_replicate.1 hx).2];exact⟨hzo,c3⟩,λp hp=>by simp at hp,λw H β yv hy _=>?_⟩;obtain⟨rfl,_⟩:=hy;rw[List.length_replicate];refine⟨Builtin.zeroCells zv.cells n,?_,by rw[BJ,hzs],LU h1 h2 hz' hzs hs hby htx c4 c5⟩;have:=z8 hzs (hzc β H) n;unfold Builtin.zeroCells;rw[hzs];rw[hzs]at this;exact this
 .exact hsl _ h
theorem GQ{ts tx:TypeId}{x y:Operand}{dst:Option Tmp}{pos:String}{after:Array Edge}{guard:Option (Nat×Bool)}{a:Act}{w:World}{r:Result Value}(h:(Builtin.append_ #[ts,tx] ty #[a.eval x,a.eval y]).run P w=r):
  (execOp a.eval ⟨dst,.call {callee:= .builtin .append,args:= #[x,y],argTypes:= #[ts,tx]},ty,pos,after,guard⟩).run P w=r.andThen λv w'=> .ok (.value v) w':=by
 subst h;have hargs:(#[x,y]:Array Operand).map a.eval= #[a.eval x,a.eval y]:=by simp
 simp only[execOp,resolve,q6b,q6c,q6a,invoke,builtin,hargs]
theorem LV {ts tx : TypeId} {x y : Operand} {dst : Option Tmp} {pos : String} {after : Array Edge} {guard : Option (Nat × Bool)} {a : Act} {w : World} {s bytes m n b off cap : Nat} {arr arrx : Array Value} {T : TypeId}
  (ha : AppSrc P ts tx ty (a.eval y) w s bytes m arrx) (hx : a.eval x = .slice (some ⟨b, off, none⟩) n cap) (hroom : n + m <= cap) (hw : w.heap[b]? = some (.cells arr T (0, 0))) (hone : ∀ v ∈ arrx.toList, v.oneC = true) (hsz : arrx.size = m * s)
  (hfit : off + n * s + m * s <= arr.size) : ∃ w', (execOp a.eval ⟨dst, .call { callee := .builtin .append, args := #[x, y], argTypes := #[ts, tx] }, ty, pos, after, guard⟩).run P w = .ok (.value (.slice (some ⟨b, off, none⟩) (n + m) cap)) w' /\
   SetArr w b (spl arr.toList (off + n * s) arrx.toList).toArray T w' := by
 obtain ⟨w', hst, hset⟩ := z9 (P := P) arrx.toList (off + n * s) 0 w arr hw hone (by simp; omega);refine ⟨w', ?_, hset⟩;have hrun := ha.room (some ⟨b, off, none⟩) n cap hroom;simp only [jl] at hrun;rw [hst, <- hx] at hrun;rw [GQ hrun]; rfl
theorem OA{ts tx:TypeId}{x y:Operand}{dst:Option Tmp}{pos:String}{after:Array Edge}{guard:Option (Nat×Bool)}{a:Act}{w:World}{H:Heap}{β:Bm}{s bytes m n cap d:Nat}{base:Option Addr}{arro arrx:Array Value}{cso csx:List Atom}
  (ha:AppSrc P ts tx ty (a.eval y) w s bytes m arrx)(hx:a.eval x= .slice base n cap)(hroom: ¬n+m<=cap)(hbig:(2*(n+m)+1000)*bytes<=281474976710656)(hsz:arrx.size=m*s)(hszo:arro.size=n*s)
  (ho: ∀w':World,w'.heap=w.heap->(Builtin.firstCells s n (.slice base n cap)).run P w'= .ok arro w')(hso:Sats β H cso arro.toList)(hsx:Sats β H csx arrx.toList)(hstr: ∀a∈cso++csx,AStr a)(hd:β d=none)(hon:Heap.On H w)(hne:cso++csx≠[]):
  ∃c w',(execOp a.eval ⟨dst,.call {callee:= .builtin .append,args:= #[x,y],argTypes:= #[ts,tx]},ty,pos,after,guard⟩).run P w= .ok (.value (.slice (some ⟨w.heap.size,0,none⟩) (n+m) c)) w'/\n+m<=c/\
   Step w H β [] [d] [] w' H (β.set d (some (w.heap.size,c)))/\(groB s (cso++csx)).rep (β.set d (some (w.heap.size,c))) w' H d:=by
 obtain⟨c,w1,e,zc,hc1,e1,e2,e3,e4,hzs,hrun⟩:=ha.new base n cap arro ho hroom hbig;rw[<-hx]at hrun;have hon1:=hon.congr e1;have hst:=Step.alloc (β:=β) d c (.cells (arro++arrx++Builtin.zeroCells zc (c-(n+m))) e) hon1;have hsize:w1.heap.size=w.heap.size:=by rw[e1]
 rw[hsize]at hst;refine⟨c,_,by rw[GQ hrun];rfl,hc1,⟨by rw[hst.os,e2],by rw[hst.tape,e3],by rw[hst.output,e4],(by simp[hsize]),λb hb' hk'=>?_,hst.hle,λb hb'=> .inl hb',hst.hon,hst.beta,λq hq b c' hb'=>⟨(hst.fresh q hq b c' hb').1,.inl ?_⟩,hst.ninj⟩,?_⟩
 .rw[hst.keep b (by omega) (λq hq=>by simp at hq),e1]
 .have:q=d:=by simpa using hq
  subst this;rw[Bm.set_same]at hb';cases hb';exact q5H _
 .have hg:groB s (cso++csx)= .grow s (cso++csx):=by
   cases hcs:cso++csx with
   |nil=>exact absurd hcs hne
   |cons a l=>rfl
  rw[hg];have hall:=Sats.append hso hsx;have hl1:(cso++csx).length=(arro++arrx).toList.length:=by rw[Sats.length hall];simp
  refine .inr ⟨w.heap.size,c,_,e,Bm.set_same _ _ _,by rw[<-hsize];exact zd w1 _,?_,?_,?_⟩
  .simp only[Array.size_append,hszo,hsz,BJ,hzs]
   rw[<-q5y,<-q5y]
   congr 1;omega
  .rw[hl1];simp
  .rw[hl1]
   have:(arro++arrx++Builtin.zeroCells zc (c-(n+m))).toList.take (arro++arrx).toList.length=arro.toList++arrx.toList:=by
    rw[Array.toList_append (xs:=arro++arrx),List.take_left,Array.toList_append]
   rw[this];refine Sats.congr (Heap.Le.refl _) (λq' hq'=>Bm.set_other _ _ λe=>?_) hall;subst e;exact absurd hd (Sats.str hstr hall hq')
theorem Step.weak{w:World}{H:Heap}{β:Bm}{kw kn kd kw' kd':List Nat}{w':World}{H':Heap}{β':Bm}(h:Step w H β kw kn kd w' H' β')(h1: ∀k∈kw,k∈kw')(h2: ∀k∈kd,k∈kd'):Step w H β kw' kn kd' w' H' β':=
 ⟨h.os,h.tape,h.output,h.size,λb hb hk=>h.keep b hb λk hkk c=>hk k (h1 k hkk) c,h.hle,h.hnew,h.hon,h.beta,λk hk b c hb=>⟨(h.fresh k hk b c hb).1,(h.fresh k hk b c hb).2.imp id λ⟨k0,a,c0,e⟩=>⟨k0,h2 k0 a,c0,e⟩⟩,h.ninj⟩
theorem Wj{α:Type}{A V:List α}{off n:Nat}(h1:off+V.length<=n)(h2:n<=A.length):(spl A off V).take n=spl (A.take n) off V:=by
 unfold spl;rw[List.take_append,List.take_append,q5w,List.drop_take];have e1:min n off=off:=by omega
 have e2:min off n=off:=by omega
 simp[q5g];have e3:min off A.length=off:=by omega
 rw[e3];have e4:List.take (n-off) V=V:=q5u (by omega);rw[e4,e1,q5w,e2,Nat.sub_sub]
theorem S5{es:Nat}{L l:List V}(hL:okE es L)(hl:okE es l){i:Nat}(hi:i+l.length<=L.length):spl (flat D L) (i*es) (flat D l)=flat D (L.take i++(l++L.drop (i+l.length))):=by
 unfold spl;rw[Ai,Ai,F8 hL i (by omega),jG hl,<-q5y,F7 hL _ hi]
theorem Nd{es N:Nat}{q:Sq V}{kb kb':KB}{k b:Nat}{β:Bm}{w w':World}{H:Heap}{i c:Nat}{l:List V}{vs:List Value}{arr:Array Value}{T:TypeId}(hkb:(kb= .arr es N q/\kb'= .arr es N (Sq.overL q i l))\/(kb= .gro es N q/\kb'= .gro es N (Sq.overL q i l)))(hok:kb.ok)
  (hl:okE es l)(hi:i+l.length<=N)(h:(kb.blk D).rep β w H k)(hβ:β k=some (b,c))(hw:w.heap[b]?=some (.cells arr T (0,0)))(hs:Sats β H (flat D l) vs)(hset:SetArr w b (spl arr.toList (i*es) vs).toArray T w'):(kb'.blk D).rep β w' H k:=by
 have hbr:Br q N/\okE es (Sq.toL .und q 0 N):=by rcases hkb with⟨rfl,_⟩|⟨rfl,_⟩<;>exact hok
 have hto:=L6 V.und hbr.1 l hi;have hL:=hbr.2;have hNl:(Sq.toL .und q 0 N).length=N:=Sq.toL_len _ _ _ _;have hfl:=jG (D:=D) hL;rw[hNl]at hfl;have hfo:=S5 (D:=D) hL hl (i:=i) (by omega);rw[<-hto]at hfo;have hvl:=Sats.length hs;rw[jG hl]at hvl;have hfit:i*es+l.length*es<=N*es:=by rw[<-q5y];exact q5V _ hi
 have hlen2:(flat D (Sq.toL .und (Sq.overL q i l) 0 N)).length=(flat D (Sq.toL .und q 0 N)).length:=by rw[<-hfo];unfold spl;simp[jG hl];omega
 have hrig:(Blk.rigid (flat D (Sq.toL .und q 0 N))).rep β w H k->(Blk.rigid (flat D (Sq.toL .und (Sq.overL q i l) 0 N))).rep β w' H k:=by
  rintro⟨b',c',arr',T',h1,h2,h3⟩
  rw[hβ]at h1;cases h1
  rw[hw]at h2;cases h2
  refine⟨b,c,_,T,hβ,hset.at_,?_⟩;rw[<-hfo];exact h3.spl _ hs
 rcases hkb with⟨rfl,rfl⟩|⟨rfl,rfl⟩
 .exact hrig h
 .have h:(groB es (flat D (Sq.toL .und q 0 N))).rep β w H k:=h
  show(groB es (flat D (Sq.toL .und (Sq.overL q i l) 0 N))).rep β w' H k;rcases My (es:=es) hlen2.symm with⟨e1,e2⟩|⟨e1,e2⟩<;>rw[e1]at h<;>rw[e2]
  .exact hrig h
  .rcases h with⟨h1,_⟩|⟨b',c',arr',T',h1,h2,h3,h4,h5⟩
   .rw[hβ]at h1;cases h1
   .rw[hβ]at h1;cases h1
    rw[hw]at h2;cases h2
    have hsz:(spl arr.toList (i*es) vs).length=arr.size:=by unfold spl;simp;omega
    refine .inr ⟨b,c,_,T,hβ,hset.at_,by simp[hsz,h3],by simp[hsz,hlen2];exact h4,?_⟩;rw[hlen2];show Sats β H _ ((spl arr.toList (i*es) vs).take _);rw[Wj (by omega) (by simpa using h4),<-hfo];exact h5.spl _ hs
theorem Pp{es N:Nat}{q:Sq V}{i:Nat}{l:List V}(hok:Br q N/\okE es (Sq.toL .und q 0 N))(hl:okE es l)(hi:i+l.length<=N):Br (Sq.overL q i l) N/\okE es (Sq.toL .und (Sq.overL q i l) 0 N):=
 ⟨Br.overL hok.1 hi,by rw[L6 V.und hok.1 l hi];exact Gf.2 ⟨Ao hok.2 _,Gf.2 ⟨hl,Hp hok.2 _⟩⟩⟩
theorem OV{es N:Nat}{q:Sq V}{k b c:Nat}{β:Bm}{w:World}{H:Heap}(hL:okE es (Sq.toL .und q 0 N))(h0:0<N*es)(hβ:β k=some (b,c))(h:((KB.gro es N q).blk D).rep β w H k):
  ∃arr T,w.heap[b]?=some (.cells arr T (0,0))/\arr.size=c*es/\N*es<=arr.size/\Sats β H (flat D (Sq.toL .und q 0 N)) (arr.toList.take (N*es)):=by
 have hfl:=jG (D:=D) hL;rw[Sq.toL_len]at hfl
 have hg:groB es (flat D (Sq.toL .und q 0 N))= .grow es (flat D (Sq.toL .und q 0 N)):=by
  cases hc:flat D (Sq.toL .und q 0 N)with
  |nil=>rw[hc]at hfl;simp at hfl;omega
  |cons a l=>rfl
 have h:(groB es (flat D (Sq.toL .und q 0 N))).rep β w H k:=h;rw[hg]at h;rcases h with⟨h1,_⟩|⟨b',c',arr,T,h1,h2,h3,h4,h5⟩
 .rw[hβ]at h1;cases h1
 .rw[hβ]at h1;cases h1
  rw[hfl]at h4 h5;exact⟨arr,T,h2,h3,h4,h5⟩
theorem YL{α:Type}{o:Option α}(h:isNo o=true):o=none:=by cases o<;>first|rfl|cases h
theorem BU{v:V}(h:v.on=true):v≠ .und:=λe=>by subst e;cases h
theorem KK{ks:List (Key×KB)}(h: ∀p∈ks,mget m p.1=some p.2)(hd:mget m d=none):look (vn D ks) d.num=none:=by
 induction ks with
 |nil=>rfl
 |cons p r ih=>
  have hne:p.1.num≠d.num:=λe=>by
   have:=Key.num_inj e;have hp:=h p q5l;rw[this,hd]at hp;cases hp
  show look ((p.1.num,p.2.blk D)::vn D r) d.num=none;have:=ih λq hq=>h q (q5k _ hq)
  simp only[look,j5 hne,cond_false,this]
theorem Vv{kin:List (Nat×Blk)}{d:Nat}{B:Blk}(h:look kin d=none):kwOf kin [(d,some B)]=[]/\qt kin [(d,some B)]=[d]/\jr [(d,some B)]=[]:=by simp[kwOf,qt,jr,h]
theorem O2{kin:List (Nat×Blk)}{k:Nat}{B:Blk}(h:(look kin k).isSome=true):kwOf kin [(k,some B)]=[k]/\qt kin [(k,some B)]=[]/\jr [(k,some B)]=[]:=by
 obtain⟨x,hx⟩:=Option.isSome_iff_exists.1 h;simp[kwOf,qt,jr,hx]
theorem Vr{kin:List (Nat×Blk)}{k d:Nat}{B:Blk}(h:(look kin k).isSome=true)(hd:look kin d=none):kwOf kin [(k,none),(d,some B)]=[k]/\qt kin [(k,none),(d,some B)]=[d]/\jr [(k,(none:Option Blk)),(d,some B)]=[k]:=by
 obtain⟨x,hx⟩:=Option.isSome_iff_exists.1 h;simp[kwOf,qt,jr,hx,hd]
theorem Pk{s:Nat}{L:List V}(h:okE s L)(hs:0<s)(hne:L≠[]):flat D L≠[]:=λe=>by
 have:=jG (D:=D) h;rw[e]at this
 cases L with
 |nil=>exact hne rfl
 |cons a l=>simp[q62]at this;omega
theorem XR {ts tx : TypeId} {x y : Operand} {u v : V} {s b : Nat} {xs : List V} {ks : List (Key × KB)} (hs : 0 < s) (hby : 0 < b) (hd : mget m d = none)
    (hsrc : (∀ k b, mget m k = some b -> b.ok) -> v.on = true /\ okE s xs /\ (∀ p ∈ ks, mget m p.1 = some p.2) /\ ∀ (w : World) (H : Heap) (β : Bm) (yv : Value), (qp D v).sat β H yv -> (∀ p ∈ vn D ks, p.2.rep β w H p.1) ->
      ∃ arrx : Array Value, Sats β H (flat D xs) arrx.toList /\ arrx.size = xs.length * s /\ AppSrc P ts tx ty yv w s b xs.length arrx) :
    jk D P (.call { callee := .builtin .append, args := #[x, y], argTypes := #[ts, tx] }) ty [x, y] [u, v] m d (appL m s b u xs ks d) := by
  have hnone : ∀ u : V, xs = [] -> u.on = true -> (∀ β H xv, (qp D u).sat β H xv -> ∃ base n cap, xv = .slice base n cap /\ n <= cap) ->
      jk D P (.call { callee := .builtin .append, args := #[x, y], argTypes := #[ts, tx] }) ty [x, y] [u, v] m d (.val u ks) := by
    intro u he hu hsl _ hv hm;obtain ⟨a1, a2, a3, a4⟩ := hsrc hm;refine ⟨λz hz => ?_, a3, ?_, hv u (by simp), BU hu, trivial⟩
    · simp at hz; rcases hz with rfl | rfl <;> exact BU (by assumption)
    · refine opk ?_
      show OpOk P _ ty [(x, qp D u), (y, qp D v)] (vn D ks) (qp D u) [];refine qn λa w H β hins hkin _ => ?_
      have hx := hins (x, qp D u) (by simp);obtain ⟨arrx, b1, b2, b3⟩ := a4 w H β _ (hins (y, qp D v) (by simp)) hkin;obtain ⟨base, n, cap, hxe, hle⟩ := hsl β H _ hx;simp only at hx hxe;refine ⟨a.eval x, hx, λ_ _ _ _ => ?_⟩;subst he;have harr : arrx.toList = [] := q51 (by simpa using b2);have hrun := b3.room base n cap (by simpa using hle);rw [harr] at hrun;have e : (match base with | some p => (storeCells (p.add (n * s)) []).run P w | none => Result.ok () w) = .ok () w := by cases base <;> simp [storeCells]
      have hrun : (Builtin.append_ #[ts, tx] ty #[.slice base n cap, a.eval y]).run P w = .ok (.slice base n cap) w := by
        rw [hrun];show Result.andThen (match base with | some p => (storeCells (p.add (n * s)) []).run P w | none => Result.ok () w) _ = _;rw [e]; rfl
      rw [<- hxe] at hrun;rw [GQ hrun]; rfl
  -- a new block
  have hnew : ∀ (u : V) (n : Nat) (L : List V) (ks' : List (Key × KB)), xs ≠ [] -> u.on = true -> L.length = n -> (2 * (n + xs.length) + 1000) * b <= 281474976710656 ->
      ((∀ k b, mget m k = some b -> b.ok) -> okE s L /\ (∀ p ∈ ks', mget m p.1 = some p.2) /\ (∀ p ∈ ks, p ∈ ks') /\ ∀ (w : World) (H : Heap) (β : Bm) (xv : Value), (qp D u).sat β H xv -> (∀ p ∈ vn D ks', p.2.rep β w H p.1) ->
        ∃ base cap, xv = .slice base n cap /\ ¬ n + xs.length <= cap /\ ∃ arro : Array Value, Sats β H (flat D L) arro.toList /\ arro.size = n * s /\ ∀ w' : World, w'.heap = w.heap -> (Builtin.firstCells s n xv).run P w' = .ok arro w') ->
      jk D P (.call { callee := .builtin .append, args := #[x, y], argTypes := #[ts, tx] }) ty [x, y] [u, v] m d (.nw (.gs d 0 (n + xs.length) s) ks' (.gro s (n + xs.length) (Sq.pushL .e 0 (L ++ xs)))) := by
    intro u n L ks' hne hu hLn hbig hL _ hv hm;obtain ⟨a1, a2, a3, a4⟩ := hsrc hm;obtain ⟨l1, l2, l3, l4⟩ := hL hm
    have htl : Sq.toL .und (Sq.pushL .e 0 (L ++ xs)) 0 (n + xs.length) = L ++ xs := by
      have := BX V.und (L ++ xs)
      rwa [q5b, hLn] at this
    have hbr : Br (Sq.pushL .e 0 (L ++ xs)) (n + xs.length) := by
      have := Br.pushL (l := L ++ xs) (Br.e (α := V))
      rwa [q63, q5b, hLn] at this
    refine ⟨λz hz => ?_, l2, ?_, trivial, by simp [KR.res], ⟨hbr, by rw [htl]; exact Gf.2 ⟨l1, a2⟩⟩⟩
    · simp at hz; rcases hz with rfl | rfl <;> exact BU (by assumption)
    · show OpK P _ ty [(x, qp D u), (y, qp D v)] (vn D ks') (.c (.one (.ks d.num (0 * s) 0 (n + xs.length)))) [(d.num, some (groB s (flat D (Sq.toL .und (Sq.pushL .e 0 (L ++ xs)) 0 (n + xs.length)))))] d.num
      rw [htl, Ai];intro dst pos after guard a w H β K Q h1 h2 h3 h4 h5 hK;obtain ⟨e1, e2, e3⟩ := Vv (B := groB s (flat D L ++ flat D xs)) (KK (D := D) l2 hd);rw [e1, e2, e3] at hK;have hβd := h5 (by rw [e2]; simp)
      obtain ⟨arrx, b1, b2, b3⟩ := a4 w H β _ (h1 (y, qp D v) (by simp)) (λp hp => by
        obtain ⟨q, hq, rfl⟩ := List.mem_map.1 hp
        exact (h2 _ (List.mem_map.2 ⟨q, l3 q hq, rfl⟩)).1)
      obtain ⟨base, cap, hxe, hroom, arro, c1, c2, c3⟩ := l4 w H β _ (h1 (x, qp D u) (by simp)) (λp hp => (h2 p hp).1);simp only at hxe
      obtain ⟨c, w', g1, g2, g3, g4⟩ := OA (P := P) (ty := ty) (dst := dst) (pos := pos) (after := after) (guard := guard) b3 hxe hroom hbig b2 c2 (by rw [hxe] at c3; exact c3) c1 b1
        (λq hq => by rcases q5i.1 hq with hq | hq; exact Aj _ _ hq; exact Aj _ _ hq) hβd h4 (by
          have := Pk (D := D) a2 hs hne
          simp [this])
      unfold Oper.wp;rw [g1];refine hK _ w' H _ g3 ⟨_, _, Bm.set_same _ _ _, by omega, by simp⟩ ?_;intro k' b' hb';simp only [q5p, q69, q68] at hb';obtain ⟨rfl, rfl⟩ := hb';exact g4
  -- in place
  have hwr : ∀ (u : V) (k : Key) (kb kb' : KB) (N lo n : Nat) (q : Sq V) (res : V), xs ≠ [] -> u.on = true -> res.on = true -> res.ok1 -> mget m k = some kb -> lo + n + xs.length <= N ->
      ((kb = .arr s N q /\ kb' = .arr s N (Sq.overL q (lo + n) xs)) \/ (kb = .gro s N q /\ kb' = .gro s N (Sq.overL q (lo + n) xs))) ->
      (∀ β H xv w, (qp D u).sat β H xv -> (kb.blk D).rep β w H k.num -> ∃ b c cap, β k.num = some (b, c) /\ xv = .slice (some ⟨b, lo * s, none⟩) n cap /\ n + xs.length <= cap /\ (qp D res).sat β H (.slice (some ⟨b, lo * s, none⟩) (n + xs.length) cap)) ->
      jk D P (.call { callee := .builtin .append, args := #[x, y], argTypes := #[ts, tx] }) ty [x, y] [u, v] m d (.wr res ((k, kb) :: ks) k kb') := by
    intro u k kb kb' N lo n q res hne hu hr hro hb hfit hkb hx _ hv hm;obtain ⟨a1, a2, a3, a4⟩ := hsrc hm;have hbo := hm k kb hb;have hbo2 : Br q N /\ okE s (Sq.toL .und q 0 N) := by rcases hkb with ⟨rfl, _⟩ | ⟨rfl, _⟩ <;> exact hbo
    have hbo' : kb'.ok := by
      have := Pp (i := lo + n) (l := xs) hbo2 a2 hfit;rcases hkb with ⟨_, rfl⟩ | ⟨_, rfl⟩ <;> exact this
    have hks : ∀ p ∈ (k, kb) :: ks, mget m p.1 = some p.2 := λp hp => by
      rcases q5j.1 hp with rfl | hp
      · exact hb
      · exact a3 p hp
    refine ⟨λz hz => ?_, hks, ?_, V.okC_ok ((V.on_okC hr).2 hro), BU hr, hbo', ⟨kb, by simp [KR.ks]⟩⟩
    · simp at hz; rcases hz with rfl | rfl <;> exact BU (by assumption)
    · refine opk ?_
      show OpOk P _ ty [(x, qp D u), (y, qp D v)] (vn D ((k, kb) :: ks)) (qp D res) [(k.num, some (kb'.blk D))];intro dst pos after guard a w H β K Q h1 h2 h3 h4 hK;have hkin : (k.num, kb.blk D) ∈ vn D ((k, kb) :: ks) := by simp [vn]
      obtain ⟨e1, e2, e3⟩ := O2 (B := kb'.blk D) (kin := vn D ((k, kb) :: ks)) (k := k.num) (by simp [vn, look]);rw [e1, e2, e3] at hK;obtain ⟨hrep, hown⟩ := h2 _ hkin
      obtain ⟨arrx, b1, b2, b3⟩ := a4 w H β _ (h1 (y, qp D v) (by simp)) (λp hp => (h2 p (by
        obtain ⟨q, hq, rfl⟩ := List.mem_map.1 hp
        exact List.mem_map.2 ⟨q, q5k _ hq, rfl⟩)).1)
      obtain ⟨bb, c, cap, hβ, hxe, hroom, hres⟩ := hx β H _ w (h1 (x, qp D u) (by simp)) hrep;simp only at hxe;have hfl := jG (D := D) hbo2.2;rw [Sq.toL_len] at hfl;have hmul : (lo + n + xs.length) * s <= N * s := q5V _ hfit;rw [q5y, q5y] at hmul;obtain ⟨b', c', arr, T, h | h⟩ := Hu (es := s) (n := N) (q := q) (by rcases hkb with ⟨h, _⟩ | ⟨h, _⟩; exact .inl h; exact .inr h) hrep
      · obtain ⟨g1, g2, g3, g4⟩ := h
        rw [hβ] at g1; cases g1
        obtain ⟨w', r1, r2⟩ := LV (P := P) (ty := ty) (dst := dst) (pos := pos) (after := after) (guard := guard) b3 hxe hroom g2 (Sats.oneC b1) b2 (by omega);rw [<- q5y] at r2;unfold Oper.wp;rw [r1];refine hK _ w' H β (Step.setArr r2 hβ (hown _ _ hβ).1 h4) hres ?_;intro k' b' hb';simp only [q5p, q69, q68] at hb';obtain ⟨rfl, rfl⟩ := hb';exact Nd (es := s) (N := N) (q := q) hkb hbo a2 hfit hrep hβ g2 b1 r2
      · rw [hβ] at h; cases h.1
  unfold appL;split
  · split
    · exact hnone _ rfl rfl λβ H xv h => ⟨none, 0, 0, h.1, q5H _⟩
    · rename_i k lo n c w0
      cases hc : Nat.ble n c with
      | false => exact kbad
      | true => exact hnone _ rfl rfl λβ H xv h => by obtain ⟨bb, c', _, rfl⟩ := h; exact ⟨_, _, _, rfl, by simpa using hc⟩
    · exact hnone _ rfl rfl λβ H xv h => by obtain ⟨bb, c', _, hle, rfl⟩ := h; exact ⟨_, _, _, rfl, by omega⟩
    · exact kbad
  · rename_i x0 xr
    generalize hxs : x0 :: xr = xs at *;have hne : xs ≠ [] := by rw [<- hxs]; simp
    have hpos : 0 < xs.length := List.length_pos_iff.2 hne;split
    · cases hc : Nat.ble ((2 * xs.length + 1000) * b) 281474976710656 with
      | false => exact kbad
      | true =>
        have hc : (2 * xs.length + 1000) * b <= 281474976710656 := by simpa using hc
        have := hnew (.uu (.slice none 0 0)) 0 [] ks hne rfl rfl (by rw [q63]; exact hc) λhm => ⟨λz hz => by simp at hz, (hsrc hm).2.2.1, λp hp => hp, λw H β xv h _ => ⟨none, 0, h.1, by omega, #[], by simp [flat, Sats], by simp, λw' _ => by rw [h.1]; simp [Builtin.firstCells]⟩⟩
        rw [q63, q5q] at this;exact this
    · rename_i k lo n c w0
      split
      · rename_i es N q hb
        cases hc : Nat.beq w0 es && Nat.beq es s && Nat.ble (lo + c) N && Nat.ble n c && Nat.ble ((2 * (n + xs.length) + 1000) * b) 281474976710656 with
        | false => exact kbad
        | true =>
          simp only [q4R] at hc;obtain ⟨⟨⟨⟨c1, c2⟩, c3⟩, c4⟩, c5⟩ := hc;have c1 := q5C c1;have c2 := q5C c2;subst c1; subst c2
          have c3 : lo + c <= N := by simpa using c3
          have c4 : n <= c := by simpa using c4
          have c5 : (2 * (n + xs.length) + 1000) * b <= 281474976710656 := by simpa using c5
          cases hr : Nat.ble (n + xs.length) c with
          | false =>
            have hr : ¬ n + xs.length <= c := bleF hr
            have hsl : srcL m w0 (.sl k lo n c w0) = some (Sq.toL .und q lo n, [(k, .arr w0 N q)]) := by
              have e1 : Nat.beq w0 w0 = true := by simp
              have e2 : Nat.ble (lo + n) N = true := by simp; omega
              unfold srcL;simp only [hb, e1, e2, Bool.and_self]
            refine hnew (.sl k lo n c w0) n (Sq.toL .und q lo n) ((k, .arr w0 N q) :: ks) hne rfl (Sq.toL_len _ _ _ _) c5 λhm => ?_
            obtain ⟨_, s2, s3, s4⟩ := Df (D := D) (P := P) hsl hm;refine ⟨s2, λp hp => ?_, λp hp => q5k _ hp, λw H β xv h hk => ?_⟩
            · rcases q5j.1 hp with rfl | hp
              · exact hb
              · exact (hsrc hm).2.2.1 p hp
            · obtain ⟨_, t2⟩ := s4 w H β xv h (λp hp => hk p (by simp [vn] at hp ⊢; exact .inl hp))
              obtain ⟨arro, u1, u2, u3⟩ := t2 n (by rw [Sq.toL_len]; exact q5H _);rw [q5u (by rw [Sq.toL_len]; exact q5H _)] at u1;obtain ⟨bb, c', hβ, rfl⟩ := h;exact ⟨_, _, rfl, hr, arro, u1, u2, u3⟩
          | true =>
            have hr : n + xs.length <= c := by simpa using hr
            refine hwr (.sl k lo n c w0) k _ _ N lo n q (.sl k lo (n + xs.length) c w0) hne rfl rfl trivial hb (by omega) (.inl ⟨rfl, rfl⟩) λβ H xv w h _ => ?_
            obtain ⟨bb, c', hβ, rfl⟩ := h;exact ⟨bb, c', c, hβ, rfl, hr, bb, c', hβ, rfl⟩
      · exact kbad
    · rename_i k lo n w0
      split
      · rename_i es N q hb
        cases hc : Nat.beq w0 es && Nat.beq es s && Nat.ble (lo + n) N && Nat.ble ((2 * (n + xs.length) + 1000) * b) 281474976710656 with
        | false => exact kbad
        | true =>
          simp only [q4R] at hc;obtain ⟨⟨⟨c1, c2⟩, c3⟩, c5⟩ := hc;have c1 := q5C c1;have c2 := q5C c2;subst c1; subst c2
          have c3 : lo + n <= N := by simpa using c3
          have c5 : (2 * (n + xs.length) + 1000) * b <= 281474976710656 := by simpa using c5
          cases hr : Nat.ble (lo + n + xs.length) N with
          | true =>
            have hr : lo + n + xs.length <= N := by simpa using hr
            intro hbad hv hm;have hbo := hm k _ hb;have h0 : 0 < N * w0 := q5W (by omega) hs;refine hwr (.gs k lo n w0) k _ _ N lo n q (.gs k lo (n + xs.length) w0) hne rfl rfl trivial hb hr (.inr ⟨rfl, rfl⟩) (λβ H xv w h hrep => ?_) hbad hv hm;obtain ⟨bb, c', hβ, hle, rfl⟩ := h;obtain ⟨arr, T, g1, g2, g3, g4⟩ := OV (D := D) hbo.2 h0 hβ hrep;have hNc : N <= c' := Nat.le_of_mul_le_mul_right (by omega) hs;exact ⟨bb, c', c' - lo, hβ, rfl, by omega, bb, c', hβ, by omega, rfl⟩
          | false =>
            cases hl : Nat.beq lo 0 && Nat.blt 0 N with
            | false => exact kbad
            | true =>
              rw [q4R] at hl;have hl0 := q5C hl.1;subst hl0;have hN0 : 0 < N := by simpa using hl.2
              have hr : ¬ 0 + n + xs.length <= N := bleF hr;have hn : n <= N := by omega
              intro _ hv hm;obtain ⟨a1, a2, a3, a4⟩ := hsrc hm;have hbo := hm k _ hb;have h0 : 0 < N * w0 := q5W hN0 hs;generalize hQ : (@Bool.rec (λ_ => Sq V) (Sq.pushL .e 0 (Sq.toL .und q 0 n ++ xs)) (Sq.pushL q n xs) (Nat.beq n N)) = Q'
              have hQ2 : Br Q' (n + xs.length) /\ Sq.toL .und Q' 0 (n + xs.length) = Sq.toL .und q 0 n ++ xs := by
                cases hnN : Nat.beq n N with
                | true =>
                  have := q5C hnN;subst this;rw [hnN] at hQ;simp only at hQ;subst hQ;exact ⟨Br.pushL hbo.1, L7 _ hbo.1 _⟩
                | false =>
                  rw [hnN] at hQ;simp only at hQ;subst hQ;have e1 := Br.pushL (l := Sq.toL .und q 0 n ++ xs) (Br.e (α := V));have e2 := BX V.und (Sq.toL .und q 0 n ++ xs);rw [q5b, Sq.toL_len] at e1 e2;rw [q63] at e1;exact ⟨e1, e2⟩
              have hcut : (Sq.toL .und q 0 N).take n = Sq.toL .und q 0 n := by
                have := NF V.und q (lo := 0) (n := n) (k := N) (by omega);simpa using this
              have hLo : okE w0 (Sq.toL .und q 0 n) := by rw [<- hcut]; exact Ao hbo.2 _
              have hks : ∀ p ∈ (k, KB.gro w0 N q) :: ks, mget m p.1 = some p.2 := λp hp => by
                rcases q5j.1 hp with rfl | hp
                · exact hb
                · exact a3 p hp
              refine ⟨λz hz => ?_, hks, ?_, trivial, by simp [KR.res], ⟨hQ2.1, by rw [hQ2.2]; exact Gf.2 ⟨hLo, a2⟩⟩, ⟨_, q5l⟩⟩
              · simp at hz; rcases hz with rfl | rfl
                · simp
                · exact BU a1
              · show OpK P _ ty [(x, .c (.one (.ks k.num (0 * w0) 0 n))), (y, qp D v)] (vn D ((k, KB.gro w0 N q) :: ks)) (.c (.one (.ks d.num (0 * w0) 0 (n + xs.length)))) [(k.num, none), (d.num, some (groB w0 (flat D (Sq.toL .und Q' 0 (n + xs.length)))))] d.num
                rw [hQ2.2, Ai];intro dst pos after guard a w H β K Q h1 h2 h3 h4 h5 hK;obtain ⟨e1, e2, e3⟩ := Vr (B := groB w0 (flat D (Sq.toL .und q 0 n) ++ flat D xs)) (kin := vn D ((k, KB.gro w0 N q) :: ks)) (k := k.num) (by simp [vn, look]) (KK (D := D) hks hd);rw [e1, e2, e3] at hK;have hβd := h5 (by rw [e2]; simp);obtain ⟨hrep, hown⟩ := h2 (k.num, (KB.gro w0 N q).blk D) (by simp [vn])
                obtain ⟨arrx, b1, b2, b3⟩ := a4 w H β _ (h1 (y, qp D v) (by simp)) (λp hp => (h2 p (by
                  obtain ⟨q, hq, rfl⟩ := List.mem_map.1 hp
                  exact List.mem_map.2 ⟨q, q5k _ hq, rfl⟩)).1)
                obtain ⟨bb, c', hβ, hle, hxe⟩ := h1 (x, .c (.one (.ks k.num (0 * w0) 0 n))) (by simp);simp only [q65, Nat.sub_zero] at hxe hβ hle;obtain ⟨arr, T, g1, g2, g3, g4⟩ := OV (D := D) hbo.2 h0 hβ hrep;have hNw : n * w0 <= N * w0 := q5V _ hn
                have hso : Sats β H (flat D (Sq.toL .und q 0 n)) (arr.toList.take (n * w0)) := by
                  have := g4.take (n * w0);rw [F8 hbo.2 n (by rw [Sq.toL_len]; exact hn), hcut, q5w, q5M hNw] at this;exact this
                have hstr : ∀ a ∈ flat D (Sq.toL .und q 0 n) ++ flat D xs, AStr a := λa hq => by rcases q5i.1 hq with hq | hq; exact Aj _ _ hq; exact Aj _ _ hq
                have hne2 : flat D (Sq.toL .und q 0 n) ++ flat D xs ≠ [] := by
                  have := Pk (D := D) a2 hs hne;simp [this]
                by_cases hroom : n + xs.length <= c'
                · have hfit : n * w0 + xs.length * w0 <= arr.size := by rw [g2, <- q5y]; exact q5V _ hroom
                  obtain ⟨w', r1, r2⟩ := LV (P := P) (ty := ty) (dst := dst) (pos := pos) (after := after) (guard := guard) b3 hxe hroom g1 (Sats.oneC b1) b2 (by omega);rw [q63] at r2;unfold Oper.wp;rw [r1];have hst2 := Step.setArr r2 hβ (hown _ _ hβ).1 h4;refine hK _ w' H (β.set d.num (some (bb, c'))) ⟨hst2.os, hst2.tape, hst2.output, hst2.size, λb' hb' hk' => hst2.keep b' hb' hk', Heap.Le.refl _, λb' hb' => .inl hb', hst2.hon, λq hq => Bm.set_other _ _ (by simpa using hq), λq hq b' c' hb' => ?_, λq hq q' hq' hne => ?_⟩ ⟨_, _, Bm.set_same _ _ _, by omega, by simp⟩ ?_
                  · have : q = d.num := by simpa using hq
                    subst this; rw [Bm.set_same] at hb'; cases hb'
                    exact ⟨(hown _ _ hβ).1, .inr ⟨k.num, by simp, _, hβ⟩⟩
                  · have e1 : q = d.num := by simpa using hq
                    have e2 : q' = d.num := by simpa using hq'
                    exact absurd (e1.trans e2.symm) hne
                  · intro q' bb' hqb
                    simp only [q5j, q69, reduceCtorEq, and_false, q68, q5r, or_false, false_or] at hqb;obtain ⟨rfl, rfl⟩ := hqb
                    have hg : groB w0 (flat D (Sq.toL .und q 0 n) ++ flat D xs) = .grow w0 (flat D (Sq.toL .und q 0 n) ++ flat D xs) := by
                      cases hcs : flat D (Sq.toL .und q 0 n) ++ flat D xs with
                      | nil => exact absurd hcs hne2
                      | cons a l => rfl
                    rw [hg];have hlx : arrx.toList.length = xs.length * w0 := by simpa using b2
                    have hlo : (flat D (Sq.toL .und q 0 n)).length = n * w0 := by rw [jG hLo, Sq.toL_len]
                    have hszspl : (spl arr.toList (n * w0) arrx.toList).length = arr.size := by unfold spl; simp; simp at hlx; omega
                    have hll : (flat D (Sq.toL .und q 0 n) ++ flat D xs).length = n * w0 + xs.length * w0 := by rw [q5b, hlo, jG a2]
                    refine .inr ⟨bb, c', _, T, Bm.set_same _ _ _, r2.at_, by simp [hszspl, g2], by simp only [List.size_toArray, hszspl, hll]; exact hfit, ?_⟩;rw [hll];show Sats _ _ _ ((spl arr.toList (n * w0) arrx.toList).take _)
                    have : (spl arr.toList (n * w0) arrx.toList).take (n * w0 + xs.length * w0) = arr.toList.take (n * w0) ++ arrx.toList := by
                      unfold spl;rw [<- q4X, List.take_left' (by simp; simp at hlx; omega)]
                    rw [this];have hall := Sats.append hso b1;refine Sats.congr (Heap.Le.refl _) (λq' hq' => Bm.set_other _ _ λe => ?_) hall;subst e;exact absurd hβd (Sats.str hstr hall hq')
                · obtain ⟨c, w', r1, r2, r3, r4⟩ := OA (P := P) (ty := ty) (dst := dst) (pos := pos) (after := after) (guard := guard) (arro := (arr.toList.take (n * w0)).toArray) b3 hxe hroom c5 b2 (by simp; omega)
                    (λw' hw' => by
                      have := S4 (P := P) (s := w0) (j := n) (n := n) (c := c') (off := 0) (w := w') (by rw [hw']; exact g1) (by omega)
                      simpa using this) (by simpa using hso) b1 hstr hβd h4 hne2
                  unfold Oper.wp;rw [r1];refine hK _ w' H _ (Step.weak r3 (by simp) (by simp)) ⟨_, _, Bm.set_same _ _ _, by omega, by simp⟩ ?_;intro q' bb' hqb;simp only [q5j, q69, reduceCtorEq, and_false, q68, q5r, or_false, false_or] at hqb;obtain ⟨rfl, rfl⟩ := hqb;exact r4
      · exact kbad
    · exact kbad
theorem Ha{ts tx:TypeId}{x y:Operand}{u v:V}:jk D P (.call {callee:= .builtin .append,args:= #[x,y],argTypes:= #[ts,tx]}) ty [x,y] [u,v] m d (DD P ts tx m u v d):=by
 unfold DD;split
 .rename_i s b hb
  cases hc:Nat.blt 0 s&&Nat.blt 0 b&&zOk P ts s&&isNo (mget m d)with
  |false=>exact kbad
  |true=>
   simp only[q4R]at hc;obtain⟨⟨⟨c1,c2⟩,c3⟩,c4⟩:=hc;have c1:0<s:=by simpa using c1
   have c2:0<b:=by simpa using c2
   simp only;split
   .rename_i xs ks hsrc
    exact XR c1 c2 (YL c4) λhm=>Oc hb c1 c2 c3 hsrc hm
   .exact kbad
 .exact kbad
end
end
noncomputable section
section
variable {D:List Int} {P:Program} {m:qR} {d:Key} {ty:TypeId}
section
variable {w:World} {b:Nat} {l:List (V×V)} {vs:List Value} {t kt e:TypeId} {s:Nat} {k:V}
end
theorem Sh{t:TypeId}:jk D P (.makeMap t none) ty [] [] m d (CA P t d):=λh=>absurd rfl h
theorem UY{t:TypeId}{c:Bool}{x y:Operand}{u v:V}:jk D P (.lookup t x y c) ty [x,y] [u,v] m d (vC P m t c u v):=λh=>absurd rfl h
theorem YH{t:TypeId}{x y z:Operand}{u v q:V}:jk D P (.mapUpdate t x y z) ty [x,y,z] [u,v,q] m d (Ff P m t u v q):=λh=>absurd rfl h
theorem YB{s t:TypeId}{x:Operand}{v:V}:jk D P (.convert s t x) ty [x] [v] m d (SA P m s t v):=λh=>absurd rfl h
end
end
noncomputable section
section
variable {D:List Int} {P:Program} {m:qR} {d:Key} {ty:TypeId}
section
variable {w:World} {b:Nat} {l:List (V×V)} {vs:List Value} {t kt e:TypeId} {s:Nat} {k:V}
end
theorem QC{t:TypeId}{x y:Operand}{u v:V}:jk D P (.mapEntry t x y) ty [x,y] [u,v] m d (Bx P m t u v):=λh=>absurd rfl h
theorem MA{t:TypeId}{x y z:Operand}{u s v:V}:jk D P (.entryStore t x y z) ty [x,y,z] [u,s,v] m d (wX m u s v):=λh=>absurd rfl h
end
end
noncomputable section
section
variable {D:List Int} {P:Program} {m:qR} {d:Key} {ty:TypeId}
theorem UH{t:TypeId}{n s:Nat}{g:Bool}(h:elT P t=some (n,s,g)): ∃e,P.underlying t=some (.array n e)/\qE P e=some (g,s):=by
 unfold elT at h;split at h
 .rename_i n' e h1
  split at h
  .rename_i g' s' h2
   cases h;exact⟨e,h1,h2⟩
  .cases h
 .cases h
theorem UW{t:TypeId}{x y:Operand}{u v:V}:jk D P (.index t x y) ty [x,y] [u,v] m d (Gb P t u v):=by
 unfold Gb;split
 .rename_i n s g kk j he
  obtain⟨e,h1,h2⟩:=UH he
  cases hc:isC u&&!u.on&&Nat.blt j n with
  |false=>exact kbad
  |true=>
   simp only[q4R,q4T]at hc;obtain⟨⟨c1,c2⟩,c3⟩:=hc;have c3:j<n:=by simpa using c3
   intro hr hv _;have ho:=Bv c1 (hv u (by simp));obtain⟨l,z,e1,hz,k1,k2,k3,k4⟩:=MO (D:=D) rfl hr ho;have e1:(@Bool.rec (λ_=>KR) .bad (ldS g s u (j*s) []) true)= .val z []:=e1;rw[e1];refine⟨λy hy=>(by simp at hy;rcases hy with rfl|rfl;exact zB ho;simp),λq hq=>(by simp[KR.ks]at hq),opk ?_,V.okC_ok hz,zB hz,trivial⟩;show OpOk P (.index t x y) ty [(x,qp D u),(y,qc kk (.ofNat j))] [] (qp D z) [];rw[wI ho,wI hz,V.off_cmp c2 ho]
   cases g with
   |true=>rw[k3 rfl];exact AI h1 h2 c3 (λ_=>by rw[k1]) (λh=>by cases h)
   |false=>
    obtain⟨q1,q2,q3⟩:=k4 rfl;rw[q1];rw[q2]at k1;exact AI h1 h2 c3 (λh=>by cases h) (λ_=>⟨_,rfl,A3 k1 q3⟩)
 .exact kbad
theorem UX{t:TypeId}{x y:Operand}{l:List Nat}{v:V}:jk D P (.index t x y) ty [x,y] [.st l,v] m d (Jx P t l v):=λh=>absurd rfl h
theorem Js{t:TypeId}{x y:Operand}{u v:V}:jk D P (.index t x y) ty [x,y] [u,v] m d (Cz P t u v):=by
 unfold Cz;split
 .exact UX
 .exact UW
theorem Th {op : Op} {xs : List Operand} {vs : List V} {x : Operand} {u : V} {s : Nat} {ks : List (Key × KB)} {r : Nat -> V} {f : Nat -> List V} {r0 : V} (hmem : (x, qp D u) ∈ List.zip xs (vs.map (qp D))) (hne : u.on = true -> (∀ k b, mget m k = some b -> b.ok) -> ∀ v ∈ vs, v ≠ .und) (hr : ∀ n, (r n).ok /\ r n ≠ .und) (hr0 : r0 = r 0)
  (hsrc : (∀ k b, mget m k = some b -> b.ok) -> (∀ p ∈ ks, mget m p.1 = some p.2) /\ (∀ n, okE s (f n) /\ (f n).length <= n) /\ ∀ (a : Act) (w : World) (H : Heap) (β : Bm) (base : Option Addr) (n cap : Nat), (∀ p ∈ List.zip xs (vs.map (qp D)), p.2.sat β H (a.eval p.1)) -> (∀ p ∈ vn D ks, p.2.rep β w H p.1) -> a.eval x = .slice base n cap ->
   ∃ arrx : Array Value, Sats β H (flat D (f n)) arrx.toList /\ ∀ w', (match base with | some p => (storeCells p arrx.toList).run P w | none => Result.ok () w) = .ok () w' ->
    ∃ rv, (∀ dst pos after guard, (execOp a.eval ⟨dst, op, ty, pos, after, guard⟩).run P w = .ok (.value rv) w') /\ ∀ β' H', (qp D (r n)).sat β' H' rv) :
  jk D P op ty xs vs m d (ovr m s u ks r f r0) := by
 have main : ∀ (k : Key) (kb kb' : KB) (N lo n : Nat) (q : Sq V), u.on = true -> mget m k = some kb -> lo + n <= N -> ((kb = .arr s N q /\ kb' = .arr s N (Sq.overL q lo (f n))) \/ (kb = .gro s N q /\ kb' = .gro s N (Sq.overL q lo (f n)))) ->
   (∀ β H xv, (qp D u).sat β H xv -> ∃ b c cap, β k.num = some (b, c) /\ xv = .slice (some ⟨b, lo * s, none⟩) n cap) -> jk D P op ty xs vs m d (.wr (r n) ((k, kb) :: ks) k kb') := by
  intro k kb kb' N lo n q hu hb hfit hkb hx _ hv hm;obtain ⟨a3, a2, a4⟩ := hsrc hm;obtain ⟨a2, a5⟩ := a2 n;have hbo := hm k kb hb;have hfit2 : lo + (f n).length <= N := by omega
  have hbo2 : Br q N /\ okE s (Sq.toL .und q 0 N) := by rcases hkb with ⟨rfl, _⟩ | ⟨rfl, _⟩ <;> exact hbo
  have hbo' : kb'.ok := by
   have := Pp (i := lo) (l := f n) hbo2 a2 hfit2;rcases hkb with ⟨_, rfl⟩ | ⟨_, rfl⟩ <;> exact this
  have hks : ∀ p ∈ (k, kb) :: ks, mget m p.1 = some p.2 := λp hp => by
   rcases q5j.1 hp with rfl | hp
   .exact hb
   .exact a3 p hp
  refine ⟨hne hu hm, hks, ?_, (hr n).1, (hr n).2, hbo', ⟨kb, by simp [KR.ks]⟩⟩;refine opk ?_;show OpOk P op ty (List.zip xs (vs.map (qp D))) (vn D ((k, kb) :: ks)) (qp D (r n)) [(k.num, some (kb'.blk D))];intro dst pos after guard a w H β K Q h1 h2 h3 h4 hK;have hkin : (k.num, kb.blk D) ∈ vn D ((k, kb) :: ks) := by simp [vn]
  obtain ⟨e1, e2, e3⟩ := O2 (B := kb'.blk D) (kin := vn D ((k, kb) :: ks)) (k := k.num) (by simp [vn, look]);rw [e1, e2, e3] at hK;obtain ⟨hrep, hown⟩ := h2 _ hkin;obtain ⟨bb, c, cap, hβ, hxe⟩ := hx β H _ (h1 (x, qp D u) hmem);simp only at hxe
  obtain ⟨arrx, b1, b2⟩ := a4 a w H β _ n cap h1 (λp hp => (h2 p (by
   obtain ⟨q, hq, rfl⟩ := List.mem_map.1 hp
   exact List.mem_map.2 ⟨q, q5k _ hq, rfl⟩)).1) hxe
  have hfl := jG (D := D) hbo2.2;rw [Sq.toL_len] at hfl;have hmul : (lo + (f n).length) * s <= N * s := q5V _ hfit2;rw [q5y] at hmul;have hlx := Sats.length b1;rw [jG a2] at hlx;obtain ⟨b', c', arr, T, h | h⟩ := Hu (es := s) (n := N) (q := q) (by rcases hkb with ⟨h, _⟩ | ⟨h, _⟩; exact .inl h; exact .inr h) hrep
  .obtain ⟨g1, g2, g3, g4⟩ := h
   rw [hβ] at g1; cases g1
   obtain ⟨w', hst, hset⟩ := z9 (P := P) arrx.toList (lo * s) 0 w arr g2 (Sats.oneC b1) (by omega);obtain ⟨rv, r1, r2⟩ := b2 w' hst;unfold Oper.wp;rw [r1];refine hK _ w' H β (Step.setArr hset hβ (hown _ _ hβ).1 h4) (r2 _ _) ?_;intro k' b' hb';simp only [q5p, q69, q68] at hb';obtain ⟨rfl, rfl⟩ := hb';exact Nd (es := s) (N := N) (q := q) hkb hbo a2 hfit2 hrep hβ g2 b1 hset
  .rw [hβ] at h; cases h.1
 unfold ovr;split
 .intro _ hv hm
  obtain ⟨a3, a2, a4⟩ := hsrc hm;refine ⟨hne rfl hm, a3, ?_, by rw [hr0]; exact (hr 0).1, by rw [hr0]; exact (hr 0).2, trivial⟩;refine opk (qn λa w H β hins hkin _ => ?_);have hx : (qp D (.uu (.slice none 0 0))).sat β H (a.eval x) := hins (x, _) hmem;obtain ⟨arrx, b1, b2⟩ := a4 a w H β none 0 0 hins hkin hx.1;obtain ⟨rv, r1, r2⟩ := b2 w rfl;exact ⟨rv, by show (qp D r0).sat β H rv; rw [hr0]; exact r2 β H, r1⟩
 .rename_i k lo n c w0
  split
  .rename_i es N q hb
   cases hc : Nat.beq w0 es && Nat.beq es s && Nat.ble (lo + n) N with
   | false => exact kbad
   | true =>
    simp only [q4R] at hc;obtain ⟨⟨c1, c2⟩, c3⟩ := hc;have c1 := q5C c1;have c2 := q5C c2;subst c1; subst c2
    exact main k _ _ N lo n q rfl hb (by simpa using c3) (.inl ⟨rfl, rfl⟩) λβ H xv h => by obtain ⟨bb, c', hβ, rfl⟩ := h; exact ⟨_, _, _, hβ, rfl⟩
  .exact kbad
 .rename_i k lo n w0
  split
  .rename_i es N q hb
   cases hc : Nat.beq w0 es && Nat.beq es s && Nat.ble (lo + n) N with
   | false => exact kbad
   | true =>
    simp only [q4R] at hc;obtain ⟨⟨c1, c2⟩, c3⟩ := hc;have c1 := q5C c1;have c2 := q5C c2;subst c1; subst c2
    exact main k _ _ N lo n q rfl hb (by simpa using c3) (.inr ⟨rfl, rfl⟩) λβ H xv h => by obtain ⟨bb, c', hβ, _, rfl⟩ := h; exact ⟨_, _, _, hβ, rfl⟩
  .exact kbad
 .intro _ hv hm
  obtain ⟨a3, a2, a4⟩ := hsrc hm;obtain ⟨a2, a5⟩ := a2 0;refine ⟨hne rfl hm, a3, ?_, by rw [hr0]; exact (hr 0).1, by rw [hr0]; exact (hr 0).2, trivial⟩;refine opk (qn λa w H β hins hkin _ => ?_);have hx : (qp D .em).sat β H (a.eval x) := hins (x, _) hmem;obtain ⟨b, c, hx⟩ : ∃ b c, a.eval x = .slice (some b) 0 c := hx;obtain ⟨arrx, b1, b2⟩ := a4 a w H β (some b) 0 c hins hkin hx;have e0 : f 0 = [] := q51 (Nat.le_zero.1 a5);rw [e0] at b1;have e1 : arrx.toList = [] := q51 (Sats.length b1).symm;obtain ⟨rv, r1, r2⟩ := b2 w (by show (storeCells b arrx.toList).run P w = _; rw [e1]; simp [storeCells]);exact ⟨rv, by show (qp D r0).sat β H rv; rw [hr0]; exact r2 β H, r1⟩
 .exact kbad
theorem RM{t tu e:TypeId}{i:TypeInfo}{x y:Operand}(h1:P.underlying t=some (.slice e))(h2:P.info? e=some i){a:Act}{w w':World}{base:Option Addr}{n cap m:Nat}{arrx:Array Value}(ex:a.eval x= .slice base n cap)(hl:(Builtin.lenOf (a.eval y)).run P w= .ok m w)
  (hf:(Builtin.firstCells i.size (Nat.min m n) (a.eval y)).run P w= .ok arrx w)(hst:(match base with|some p=>(storeCells p arrx.toList).run P w|none=>Result.ok () w)= .ok () w')(dst:Option Tmp)(pos:String)(after:Array Edge)(guard:Option (Nat×Bool)):
  (execOp a.eval ⟨dst,.call {callee:= .builtin .copy,args:= #[x,y],argTypes:= #[t,tu]},ty,pos,after,guard⟩).run P w= .ok (.value (goInt (Nat.min m n))) w':=by
 cases base with
 |none=>
  simp only[Result.ok.injEq]at hst;simp only[execOp,resolve,q6b,q6c,q6a,invoke,builtin,List.map_toArray,q5h,List.map_nil,ex,Builtin.copy_,q5a,q55,q54,qi h1,hl,jc h2,hf];simp[hst]
 |some p=>
  simp only at hst;simp only[execOp,resolve,q6b,q6c,q6a,invoke,builtin,List.map_toArray,q5h,List.map_nil,ex,Builtin.copy_,q5a,q55,q54,qi h1,hl,jc h2,hf,hst]
theorem q1c{ts tx:TypeId}{x y:Operand}{u v:V}:jk D P (.call {callee:= .builtin .copy,args:= #[x,y],argTypes:= #[ts,tx]}) ty [x,y] [u,v] m d (QM P ts m u v):=by
 unfold QM;split
 .rename_i s b hb
  split
  .rename_i xs ks hsrc
   obtain⟨e,i,h1,h2,rfl,rfl⟩:=zG hb;refine Th (x:=x) (by simp) (λhu hm z hz=>?_) (λn=>⟨trivial,by simp⟩) (by simp) λhm=>?_
   .simp at hz
    rcases hz with rfl|rfl
    .exact BU hu
    .exact BU (Df (D:=D) (P:=P) hsrc hm).1
   .obtain⟨a1,a2,a3,a4⟩:=Df (D:=D) (P:=P) hsrc hm
    refine⟨a3,λn=>⟨Ao a2 n,by rw[q5g];omega⟩,λa w H β base n cap hins hk hx=>?_⟩;obtain⟨b1,b2⟩:=a4 w H β _ (hins (y,qp D v) (by simp)) hk;obtain⟨arrx,c1,c2,c3⟩:=b2 (Nat.min xs.length n) (Nat.min_le_left _ _)
    have e1:xs.take (Nat.min xs.length n)=xs.take n:=by
     have:=List.take_eq_take_min (l:=xs) (i:=n);rw[this,Nat.min_comm]
    rw[e1]at c1;exact⟨arrx,c1,λw' hst=>⟨_,RM h1 h2 hx b1 (c3 w rfl) hst,λβ' H'=>⟨rfl,rfl⟩⟩⟩
  .exact kbad
 .exact kbad
theorem Jq{ts:TypeId}{x:Operand}{u:V}:jk D P (.call {callee:= .builtin .clear,args:= #[x],argTypes:= #[ts]}) ty [x] [u] m d (MK P ts m u):=by
 unfold MK;split
 .rename_i s b hb
  cases hc:!isU (elV P ts)&&Nat.beq (elV P ts).size s with
  |false=>exact kbad
  |true=>
   simp only[q4R,q4T]at hc;have c3:=q5C hc.2;obtain⟨z,hez,hzs,hzo,hzc⟩:=Ec (D:=D) hb (zx hc.1) c3;obtain⟨e,i,h1,h2,rfl,rfl⟩:=zG hb;obtain⟨e',i',zv,h1',h2',hz',rfl⟩:=zS hez;rw[h1]at h1';cases h1'
   rw[h2]at h2';cases h2'
   refine Th (x:=x) (by simp) (λhu hm y hy=>?_) (λn=>⟨λy hy=>(by simp at hy),by simp⟩) rfl λhm=>⟨λp hp=>by simp at hp,λn=>⟨λy hy=>(by rw[(List.mem_replicate.1 hy).2];exact⟨hzo,c3⟩),by simp⟩,λa w H β base n cap hins hk hx=>?_⟩
   .simp at hy;subst hy;exact BU hu
   .refine⟨Builtin.zeroCells zv.cells n,?_,λw' hst=>⟨.tuple #[],λdst pos after guard=>?_,λβ' H'=>⟨#[],rfl,trivial⟩⟩⟩
    .have:=z8 hzs (hzc β H) n
     unfold Builtin.zeroCells;rw[hzs];rw[hzs]at this;exact this
    .have hcl:(Builtin.clear_ #[ts] ty #[.slice base n cap]).run P w= .ok (.tuple #[]) w':=by
      cases base with
      |none=>
       have hst:w=w':=by simpa using hst
       subst hst;simp only[Builtin.clear_,q5a,q55,q6b,qi h1,q6a,q6c]
      |some p=>
       simp only at hst
       cases n with
       |zero=>
        have:(storeCells p (Builtin.zeroCells zv.cells 0).toList).run P w= .ok () w:=by simp[Builtin.zeroCells,storeCells]
        rw[this]at hst;cases hst
        simp only[Builtin.clear_,q5a,q55,q6b,qi h1,q6a,q6c]
       |succ n=>
        simp only[Builtin.clear_,q5a,q55,q6b,qi h1,q6a,js h2 hz',hst,q6c]
     simp only[execOp,resolve,q6b,q6c,q6a,invoke,builtin,List.map_toArray,q5h,List.map_nil,hx,hcl]
 .exact kbad
theorem T7{t e:TypeId}{x:Operand}{u:Atom}{n:Nat}(h:P.underlying t=some (.slice e))(hu: ∀β H v,u.sat β H v-> ∃a l,v= .slice a l n):
  OpOk P (.call {callee:= .builtin .cap,args:= #[x],argTypes:= #[t]}) ty [(x,.c (.one u))] [] (qc .i64 n) []:=
 qn λa w H β hins _ _=>by
  obtain⟨p,l,hx⟩:=hu β H _ (hins _ q5l);simp only at hx;refine⟨.int .i64 n,⟨rfl,rfl⟩,λ_ _ _ _=>?_⟩
  have hc:(Builtin.cap_ #[t] ty #[.slice p l n]).run P w= .ok (goInt n) w:=by
   simp only[Builtin.cap_,q5a,q55,q6b,qi h,q6a,q6c]
  simp only[execOp,resolve,q6b,q6c,q6a,invoke,builtin,List.map_toArray,q5h,List.map_nil,hx,hc];rfl
theorem q3E{ts:TypeId}{x:Operand}{u:V}:jk D P (.call {callee:= .builtin .cap,args:= #[x],argTypes:= #[ts]}) ty [x] [u] m d (kCap P ts u):=by
 unfold kCap
 cases hs:jv P ts with
 |false=>exact kbad
 |true=>
  unfold jv at hs;split at hs
  .rename_i e he
   simp only;split
   .rename_i k q n c w
    exact zU (v:= .sl k q n c w) (r:= .nn .i64 c) rfl rfl trivial (T7 he λβ H y hy=>by obtain⟨b,c',_,rfl⟩:=hy;exact⟨_,_,rfl⟩)
   .rename_i n c
    exact zU (v:= .uu (.slice none n c)) (r:= .nn .i64 c) rfl rfl trivial (T7 he λβ H y hy=>by obtain⟨rfl,_⟩:=hy;exact⟨_,_,rfl⟩)
   .exact kbad
  .cases hs
theorem II{x y:Operand}{ts:Array TypeId}{k:IntKind}{a b:Int}:
  OpOk P (.call {callee:= .builtin .min,args:= #[x,y],argTypes:=ts}) ty [(x,qc k a),(y,qc k b)] [] (qc k (min a b)) []:=
 qn λac w H β hins _ _=>by
  have hx:=(hins (x,qc k a) (by simp)).1;have hy:=(hins (y,qc k b) (by simp)).1;simp only at hx hy;refine⟨.int k (min a b),⟨rfl,rfl⟩,λ_ _ _ _=>?_⟩
  have e:(if b<a then b else a)=min a b:=by
   rw[Int.min_def];split<;>split<;>omega
  simp[execOp,resolve,invoke,builtin,hx,hy,Builtin.min_,Builtin.min2,e]
theorem QD{x y:Operand}{ts:Array TypeId}{u v:V}:jk D P (.call {callee:= .builtin .max,args:= #[x,y],argTypes:=ts}) ty [x,y] [u,v] m d (At true u v):=by
 unfold At;split
 .rename_i k a k' b
  cases hk:keq k k' with
  |false=>exact kbad
  |true=>
   have:=Fg hk;subst this;refine ww (v:= .nn k a) (u:= .nn k b) (r:= .nn k (Nat.max a b)) rfl rfl rfl trivial ?_;show OpOk P _ ty [(x,qc k a),(y,qc k b)] [] (qc k ((Nat.max a b:Nat):Int)) []
   have:((Nat.max a b:Nat):Int)=max (a:Int) (b:Int):=by
    show((max a b:Nat):Int)=_;omega
   rw[this];exact Ta
 .exact kbad
theorem QE{x y:Operand}{ts:Array TypeId}{u v:V}:jk D P (.call {callee:= .builtin .min,args:= #[x,y],argTypes:=ts}) ty [x,y] [u,v] m d (At false u v):=by
 unfold At;split
 .rename_i k a k' b
  cases hk:keq k k' with
  |false=>exact kbad
  |true=>
   have:=Fg hk;subst this;refine ww (v:= .nn k a) (u:= .nn k b) (r:= .nn k (Nat.min a b)) rfl rfl rfl trivial ?_;show OpOk P _ ty [(x,qc k a),(y,qc k b)] [] (qc k ((Nat.min a b:Nat):Int)) []
   have:((Nat.min a b:Nat):Int)=min (a:Int) (b:Int):=by
    show((min a b:Nat):Int)=_;omega
   rw[this];exact II
 .exact kbad
theorem arr1{α:Type}{a:Array α}{x:α}(h:a.toList=[x]):a= #[x]:=Array.ext' h
theorem arr2{α:Type}{a:Array α}{x y:α}(h:a.toList=[x,y]):a= #[x,y]:=Array.ext' h
theorem map1{α β:Type}{f:α->β}{l:List α}{y:β}(h:l.map f=[y]): ∃x,l=[x]/\f x=y:=by
 match l,h with
 |[x],h=>simp at h;exact⟨x,rfl,h⟩
theorem map2{α β:Type}{f:α->β}{l:List α}{y z:β}(h:l.map f=[y,z]): ∃x u,l=[x,u]/\f x=y/\f u=z:=by
 match l,h with
 |[x,u],h=>simp at h;exact⟨x,u,rfl,h.1,h.2⟩
theorem Sg{e:Env16}{b:Builtin}{xs:Array Operand}{ts:Array TypeId}:
  jk D P (.call {callee:= .builtin b,args:=xs,argTypes:=ts}) ty xs.toList (xs.toList.map (qb e)) m d (zj P b ts.toList (evs e xs.toList) m d):=by
 unfold zj evs
 cases b with
 |len=>
  simp only;split
  .rename_i t x h1 h2
   obtain⟨o,e1,rfl⟩:=map1 h2;rw[arr1 h1,arr1 e1];exact QA
  .exact kbad
 |append=>
  simp only;split
  .rename_i t u x y h1 h2
   obtain⟨o,o',e1,rfl,rfl⟩:=map2 h2;rw[arr2 h1,arr2 e1];exact Ha
  .exact kbad
 |copy=>
  simp only;split
  .rename_i t u x y h1 h2
   obtain⟨o,o',e1,rfl,rfl⟩:=map2 h2;rw[arr2 h1,arr2 e1];exact q1c
  .exact kbad
 |clear=>
  simp only;split
  .rename_i t x h1 h2
   obtain⟨o,e1,rfl⟩:=map1 h2;rw[arr1 h1,arr1 e1];exact Jq
  .exact kbad
 |cap=>
  simp only;split
  .rename_i t x h1 h2
   obtain⟨o,e1,rfl⟩:=map1 h2;rw[arr1 h1,arr1 e1];exact q3E
  .exact kbad
 |max=>
  simp only;split
  .rename_i x y h2
   obtain⟨o,o',e1,rfl,rfl⟩:=map2 h2;rw[arr2 e1];exact QD
  .exact kbad
 |min=>
  simp only;split
  .rename_i x y h2
   obtain⟨o,o',e1,rfl,rfl⟩:=map2 h2;rw[arr2 e1];exact QE
  .exact kbad
 |_=>exact kbad
theorem MM{e:Env16}(o:Op):jk D P o ty o.operands.toList (o.operands.toList.map (qb e)) m d (kop P e m d o):=by
 cases o with
 |move x=>exact MC
 |assign x=>exact Hb
 |load t x=>exact MB
 |binOp op t x y t'=>exact Qy
 |fieldAddr s x f=>exact Be
 |store t x y=>exact Jt
 |indexAddr t x y=>exact Dm
 |alloc t=>exact Jo
 |box t x=>exact Qz
 |extract x i=>exact Fb
 |build t ps=>exact Jp
 |pick c x y=>exact MD
 |buildSlice t n ps=>exact Cu
 |convert s t x=>
  show jk D P (.convert s t x) ty [x] [qb e x] m d (wh P m s t (qb e x));unfold wh;split
  .exact Mz
  .exact YB
 |makeMap t r=>
  cases r with
  |none=>exact Sh
  |some z=>exact kbad
 |lookup t x y c=>exact UY
 |mapUpdate t x y z=>exact YH
 |mapEntry t x y=>exact QC
 |entryStore t x y z=>exact MA
 |unOp op t x=>exact h_un
 |slice t x lo hi mx=>
  cases mx with
  |some z=>exact kbad
  |none=>
   have e1:(Op.slice t x lo hi none).operands.toList=x::(lo.toList++hi.toList):=by
    simp[Op.operands]
   have e2:(x::(lo.toList++hi.toList)).map (qb e)=qb e x::((lo.map (qb e)).toList++(hi.map (qb e)).toList):=by
    cases lo<;>cases hi<;>rfl
   rw[e1,e2];exact G7 (by cases lo<;>rfl) (by cases hi<;>rfl)
 |nilCheck x=>exact QG
 |makeSlice t x y=>exact Om
 |makeFunc fn fs cp=>
  have hk:kop P e m d (.makeFunc fn fs cp)=Bf fn fs (evs e cp.toList):=rfl;rw[hk];by_cases hf:fs.size=0
  .have hf:=q4Q hf
   subst hf;have e1:(Op.makeFunc fn #[] cp).operands.toList=cp.toList:=by simp[Op.operands]
   rw[e1];exact q1d (by simp[evs])
  .have:Bf fn fs (evs e cp.toList)= .bad:=by
    unfold Bf;split
    .rw[j5 hf]
    .rfl
   rw[this];exact kbad
 |field s x f=>exact Jr
 |index t x y=>exact Js
 |call c=>
  obtain⟨cl,xs,ts⟩:=c
  cases cl with
  |builtin b=>
   have e1:(Op.call {callee:= .builtin b,args:=xs,argTypes:=ts}).operands.toList=xs.toList:=by simp[Op.operands,Call.operands]
   rw[e1];exact Sg
  |_=>exact kbad
 |_=>exact kbad
end
end
noncomputable section
def outc(D:List Int)(j n:Nat):Nat:=match D[j]? with|some z=>(z%(n:Int)).toNat|none=>0
def AgrS(D:List Int)(s:S):Prop:= ∀j p,s.sc[j]?=some p->outc D (s.dn+j) p.1=p.2
structure SOK (D:List Int) (s:S):Prop where
 ok: ∀k b,mget s.m k=some b->b.ok
 lt: ∀k,mget s.m k≠none->k.num<s.nx.num
 agr:AgrS D s
structure MRep (D:List Int) (m:qR) (w:World) (H:Heap) (β:Bm):Prop where
 rep: ∀k b,mget m k=some b->(b.blk D).rep β w H k.num
 own: ∀k b,mget m k=some b-> ∀bb c,β k.num=some (bb,c)->H bb=none/\bb<w.heap.size
 inj: ∀k k' b b',mget m k=some b->mget m k'=some b'->k≠k'-> ∀bb c c',β k.num=some (bb,c)->β k'.num≠some (bb,c')
structure Sim (m m':qR) (n n':Nat) (w:World) (H:Heap) (β:Bm) (w':World) (H':Heap) (β':Bm):Prop where
 os:w'.os=w.os
 tape:w'.tape=w.tape
 output:w'.output=w.output
 size:w.heap.size<=w'.heap.size
 keep: ∀b,b<w.heap.size->(∀k,mget m k≠none-> ∀c,β k.num≠some (b,c))->w'.heap[b]?=w.heap[b]?
 hle:Heap.Le H H'
 hnew: ∀b,H' b≠none->H b≠none\/w.heap.size<=b
 hon:Heap.On H' w'
 beta: ∀k,k<n\/n'<=k->β' k=β k
 own: ∀k b,mget m' k=some b-> ∀bb c,β' k.num=some (bb,c)->w.heap.size<=bb\/ ∃k0,mget m k0≠none/\ ∃c0,β k0.num=some (bb,c0)
structure CallOk (D:List Int) (P:Program) (f:FuncId) (vs:List V) (s:S) (v:V) (s':S):Prop where
 callable:callable P f=true
 sok:SOK D s'
 le:s.nx.num<=s'.nx.num
 ok:v.ok
 ne:v≠ .und
 old: ∀k,mget s'.m k≠none->mget s.m k≠none\/s.nx.num<=k.num
 calls: ∀us w H β,AVs β H (vs.map (qp D)) us->MRep D s.m w H β->Heap.On H w->(∀k,s.nx.num<=k->k<s'.nx.num->β k=none)->
  Calls P f us.toArray w λe w'=> ∃u H' β',e= .returned u/\Sim s.m s'.m s.nx.num s'.nx.num w H β w' H' β'/\(qp D v).sat β' H' u/\MRep D s'.m w' H' β'
section
variable {D:List Int} {P:Program}
theorem So: ∃l:List Nat,∀k:Key,k.num∈l:=by
 have: ∀N:Nat,∃l:List Nat,∀i,i<N->i+100000∈l:=by
  intro N
  induction N with
  |zero=>exact⟨[],λi h=>by omega⟩
  |succ N ih=>
   obtain⟨l,hl⟩:=ih;refine⟨(N+100000)::l,λi h=>?_⟩;by_cases e:i=N
   .subst e;exact q5l
   .exact q5k _ (hl i (by omega))
 obtain⟨l,hl⟩:=this 65536;refine⟨l,λk=>?_⟩;have ha:=k.a.n_lt;have hb:=k.b.n_lt;have hc:=k.c.n_lt;have hd:=k.d.n_lt
 have:=hl (k.num-100000) (by unfold Key.num;omega)
 rwa [show k.num-100000+100000=k.num by have:=k.num_ge;omega]at this
def ids:List Nat:=Classical.choose So
theorem Key.num_ids(k:Key):k.num∈ids:=Classical.choose_spec So k
def chg(D:List Int)(m m':qR)(n:Nat):Option (Option Blk):=
 match mblk m' n with
 |some b=>some (some (b.blk D))
 |none=>match mblk m n with
  |some _=>some none
  |none=>none
def lwA(D:List Int)(m m':qR):List (Nat×Option Blk):=ids.filterMap λn=>(chg D m m' n).map λx=>(n,x)
theorem AZ{α:Type}(g:Nat->Option α): ∀(l:List Nat)(n:Nat),look (l.filterMap λn=>(g n).map λx=>(n,x)) n=if n∈l then g n else none
 |[],n=>by simp[look]
 |a::l,n=>by
  rw[List.filterMap_cons]
  cases hg:g a with
  |none=>
   simp only[q66];rw[AZ g l n];by_cases e:n=a
   .subst e;simp[hg]
   .simp[e]
  |some x=>
   simp only[q67,look];by_cases e:n=a
   .subst e;simp[hg]
   .rw[j5 (λh=>e h.symm)]
    simp only[cond_false];rw[AZ g l n];simp[e]
theorem Up{m m':qR}{n:Nat}(h:n∉ids):chg D m m' n=none:=by
 have hk: ∀m:qR,mblk m n=none:=by
  intro m
  cases hb:mblk m n with
  |none=>rfl
  |some b=>obtain⟨k,rfl,_⟩:=z7 hb;exact absurd k.num_ids h
 unfold chg;rw[hk,hk]
theorem Ew(m m':qR)(n:Nat):look (lwA D m m') n=chg D m m' n:=by
 unfold lwA;rw[AZ];split
 .rfl
 .rename_i h;rw[Up h]
theorem Rv{E:Env}{σ:FS}{a:Act}{w:World}{H:Heap}{β:Bm}(hrep:RepF E σ a w H β)(hs:Str σ){m m':qR}{lo hi:Nat}{dst:Option Tmp}{R:AV}{u:Value}{w':World}{H':Heap}{β':Bm}
  (hσ: ∀k b,mget m k=some b->σ (2*k.num+1)=some (.bl (b.blk D)))(hsim:Sim m m' lo hi w H β w' H' β')(hsat:R.sat β' H' u)(hM:MRep D m' w' H' β')(hdom: ∀k,lo<=k->k<hi->β k=none)
  (hKs: ∀k∈E.Ks,k<lo)(hd: ∀t,dst=some t->t<E.n):
  RepF E (σ.upd (Wof dst R (lwA D m m'))) (a.put dst u) w' H' β':=by
 have hβ: ∀k,β k≠none->β' k=β k:=λk hk=>by
  by_cases h:lo<=k/\k<hi
  .exact absurd (hdom k h.1 h.2) hk
  .exact hsim.beta k (by omega)
 --a block of the new state
 have hnewblk: ∀k x,(σ.upd (Wof dst R (lwA D m m'))) (2*k+1)=some (.bl x)->
   (mblk m' k=none/\mblk m k=none/\σ (2*k+1)=some (.bl x))\/(∃q b,Key.num q=k/\mget m' q=some b/\x=b.blk D):=by
  intro k x hx;simp only[FS.upd,vd,Ew]at hx;unfold chg at hx
  cases h1:mblk m' k with
  |some b=>
   rw[h1]at hx;simp at hx;obtain⟨q,e1,e2⟩:=z7 h1;exact .inr ⟨q,b,e1,e2,hx.symm⟩
  |none=>
   rw[h1]at hx
   cases h2:mblk m k with
   |some b=>rw[h2]at hx;simp at hx
   |none=>rw[h2]at hx;exact .inl ⟨rfl,rfl,hx⟩
 have hself: ∀k x,σ (2*k+1)=some (.bl x)->β k≠none:=λk x hx=>(hs _ _ hx).2.2 β w H k (hrep.blk k x hx)
 --an old block that the call does not see
 have hold: ∀k x b c,mblk m k=none->σ (2*k+1)=some (.bl x)->β k=some (b,c)->w'.heap[b]?=w.heap[b]?:=by
  intro k x b c hk hx hb;refine hsim.keep b (hrep.own k x b c hx hb).2.1 λq hq c' hq'=>?_
  obtain⟨bq,hbq⟩:=Option.ne_none_iff_exists'.1 hq;refine hrep.inj q.num k _ x b c' c (hσ q bq hbq) hx (λe=>?_) hq' hb;rw[<-e,vq]at hk;exact hq hk
 refine⟨?_,?_,?_,?_,?_,?_,?_,?_,?_,?_,?_,?_,?_,?_,?_⟩
 .cases dst<;>exact hrep.defers
 .rw[Act.put_size];exact hrep.size
 .intro t av ht
  simp only[FS.upd,jW]at ht;by_cases e:dst=some t
  .rw[if_pos e]at ht
   simp at ht;subst ht;subst e
   have hlt:t<a.tmps.size:=by rw[hrep.size];exact hd t rfl
   exact⟨u,by simp[Act.put,hlt],hsat⟩
  .rw[if_neg e]at ht
   obtain⟨v,hv,hsv⟩:=hrep.slot t av ht;refine⟨v,?_,AV.sat_congr hsim.hle (λk hk=>hβ k ((hs _ _ ht).2 β H v k hsv hk)) hsv⟩
   cases dst with
   |none=>exact hv
   |some d=>
    have hne:d≠t:=λe'=>e (by rw[e'])
    simp only[Act.put];rw[Array.getElem?_setIfInBounds_ne hne];exact hv
 .intro k x hx
  rcases hnewblk k x hx with⟨h1,h2,h3⟩|⟨q,b,rfl,h2,rfl⟩
  .have hr:=hrep.blk k x h3
   refine Blk.rep_congr hr hsim.hle ?_ ?_
   .rintro k' (rfl|hm)
    .exact hβ _ (hself _ _ h3)
    .exact hβ _ ((hs _ _ h3).2.1 β w H k k' hr hm)
   .intro b c hb
    exact hold k x b c h2 h3 hb
  .exact hM.rep q b h2
 .intro k x b c hx hb
  rcases hnewblk k x hx with⟨h1,h2,h3⟩|⟨q,bq,rfl,h2,rfl⟩
  .rw[hβ k (hself k x h3)]at hb
   obtain⟨o1,o2,o3⟩:=hrep.own k x b c h3 hb;refine⟨?_,q5K o2 hsim.size,o3⟩
   cases hH:H' b with
   |none=>rfl
   |some cs=>
    rcases hsim.hnew b (by rw[hH];simp)with h|h
    .exact absurd o1 h
    .omega
  .obtain⟨o1,o2⟩:=hM.own q bq h2 b c hb
   refine⟨o1,o2,?_⟩;rcases hsim.own q bq h2 b c hb with h|⟨k0,hk0,c0,hc0⟩
   .exact .inl (q5I hrep.wsize h)
   .obtain⟨b0,hb0⟩:=Option.ne_none_iff_exists'.1 hk0
    exact(hrep.own k0.num _ b c0 (hσ k0 b0 hb0) hc0).2.2
 .intro k k' x x' b c c' hx hx' hne hb hb'
  have main: ∀q bq k' x' c c',mget m' q=some bq->q.num≠k'->mblk m' k'=none->mblk m k'=none->σ (2*k'+1)=some (.bl x')->β' q.num=some (b,c)->β' k'=some (b,c')->False:=by
   intro q bq k' x' c c' hq hne h1 h2 h3 hb hb';rw[hβ k' (hself k' x' h3)]at hb';have o:=hrep.own k' x' b c' h3 hb';rcases hsim.own q bq hq b c hb with h|⟨k0,hk0,c0,hc0⟩
   .omega
   .obtain⟨b0,hb0⟩:=Option.ne_none_iff_exists'.1 hk0
    refine hrep.inj k0.num k' _ x' b c0 c' (hσ k0 b0 hb0) h3 (λe=>?_) hc0 hb';rw[<-e,vq]at h2;exact hk0 h2
  rcases hnewblk k x hx with⟨h1,h2,h3⟩|⟨q,bq,rfl,h2,rfl⟩<;>rcases hnewblk k' x' hx' with⟨g1,g2,g3⟩|⟨q',bq',rfl,g2,rfl⟩
  .rw[hβ k (hself k x h3)]at hb
   rw[hβ k' (hself k' x' g3)]at hb';exact hrep.inj k k' x x' b c c' h3 g3 hne hb hb'
  .exact main q' bq' k x c' c g2 (Ne.symm hne) h1 h2 h3 hb' hb
  .exact main q bq k' x' c c' h2 hne g1 g2 g3 hb hb'
  .exact hM.inj q q' bq bq' h2 g2 (λe=>hne (by rw[e])) b c c' hb hb'
 .intro k hk
  rw[hsim.beta k (.inl (hKs k hk))];exact hrep.bor k hk
 .rw[hsim.os];exact hrep.os
 .rw[hsim.tape];exact hrep.tape
 .rw[hsim.output];exact hrep.output
 .exact q5I hrep.wsize hsim.size
 .intro b hb hbor
  rw[hsim.keep b (q5K hb hrep.wsize) λq hq c hc=>?_]
  .exact hrep.frame b hb hbor
  .obtain⟨bq,hbq⟩:=Option.ne_none_iff_exists'.1 hq
   rcases(hrep.own q.num _ b c (hσ q bq hbq) hc).2.2 with h|⟨k0,hk0,c0,h⟩
   .omega
   .exact hbor k0 hk0 c0 h
 .exact hrep.hle.trans hsim.hle
 .intro b hb
  rcases hsim.hnew b hb with h|h
  .exact hrep.hnew b h
  .exact .inr (q5I hrep.wsize h)
 .exact hsim.hon
theorem AVs.locs{β:Bm}{H:Heap}: ∀{ps:List (Key×Nat)}{vs:List Value},LocsSat β (ps.map λp=>(p.1.num,p.2)) vs->AVs β H ((ps.map λp=>V.pp p.1 p.2).map (qp D)) vs
 |[],[],_=>trivial
 |p::ps,v::vs,h=>⟨h.1,AVs.locs h.2⟩
 |[],_::_,h=>h.elim
 |_::_,[],h=>h.elim
theorem AVs.append{β:Bm}{H:Heap}: ∀{l l':List AV}{vs vs':List Value},AVs β H l vs->AVs β H l' vs'->AVs β H (l++l') (vs++vs')
 |[],_,[],_,_,h=>h
 |_::_,_,_::_,_,h,h'=>⟨h.1,AVs.append h.2 h'⟩
 |[],_,_::_,_,h,_=>h.elim
 |_::_,_,[],_,h,_=>h.elim
theorem Oe{f:V}{g:FuncId}{ps:List (Key×Nat)}(h:zf f=some (g,ps)){β:Bm}{H:Heap}{x:Value}(hs:(qp D f).sat β H x):
  ∃cap:List Value,x= .func (.func g) #[] cap.toArray/\AVs β H ((ps.map λp=>V.pp p.1 p.2).map (qp D)) cap:=by
 unfold zf at h;split at h
 .rename_i g' a b
  cases hc:Nat.beq a.size 0&&Nat.beq b.size 0 with
  |false=>rw[hc]at h;cases h
  |true=>
   rw[hc]at h;cases h;rw[q4R]at hc;have ha:=q4Q (q5C hc.1);have hb:=q4Q (q5C hc.2);subst ha;subst hb
   exact⟨[],hs.1,trivial⟩
 .rename_i g' ps'
  cases h;obtain⟨cap,e,hl⟩:=hs;exact⟨cap,e,AVs.locs hl⟩
 .cases h
theorem Se{E:Env}{ops:Array Oper}{i:Nat}{o:Oper}{e:Env16}{m:qR}{s s':S}{f:Operand}{xs:Array Operand}{ts:Array TypeId}{g:FuncId}{ps:List (Key×Nat)}{v:V}(ho:ops[i]?=some o)(hop:o.op= .call {callee:= .value f,args:=xs,argTypes:=ts})
  (hg:jd ops.toList e o.guard=some true)(hd: ∀t,o.dst=some t->t<E.n)(hcal:zf (qb e f)=some (g,ps))(hne: ∀x∈xs.toList,qb e x≠ .und)
  (hcall:CallOk D P g (evs e xs.toList++ps.map λp=> .pp p.1 p.2) s v s')(hm: ∀k b,mget s.m k=some b->mget m k=some b)(hKs: ∀k∈E.Ks,k<s.nx.num):
  GoodK P E ops i ⟨gslK ops.toList o.guard++je (f::xs.toList)++(ids.filter λn=>(mblk s.m n).isSome).map (λn=>2*n+1),Wof o.dst (qp D v) (lwA D s.m s'.m),[],[],none⟩ noAl s.nx.num s'.nx.num (qo D e m):=by
 intro σ hs hσ a w H β K Q hrep hdom hK
 have hrd: ∀ℓ,(ℓ∈gslK ops.toList o.guard\/ℓ∈je (f::xs.toList)\/ ∃n,n∈ids/\(mblk s.m n).isSome=true/\2*n+1=ℓ)->σ ℓ=qo D e m ℓ:=λℓ hℓ=>by
  rcases hσ ℓ (by simp only[q5i,List.mem_map,q5m];rcases hℓ with h|h|⟨n,h1,h2,h3⟩;exact .inl (.inl h);exact .inl (.inr h);exact .inr ⟨n,⟨h1,h2⟩,h3⟩)with h|⟨x,hx,_⟩
  .exact h
  .exact hx.elim
 have hw:=FQ (D:=D) hrep hg λℓ hℓ=>hrd ℓ (.inl hℓ)
 have hσm: ∀k b,mget s.m k=some b->σ (2*k.num+1)=some (.bl (b.blk D)):=λk b hb=>by
  rw[hrd _ (.inr (.inr ⟨k.num,k.num_ids,by rw[vq,hb];rfl,rfl⟩))];exact jV (hm k b hb)
 have hM:MRep D s.m w H β:=by
  refine⟨λk b hb=>hrep.blk _ _ (hσm k b hb),λk b hb bb c h=>⟨(hrep.own _ _ bb c (hσm k b hb) h).1,(hrep.own _ _ bb c (hσm k b hb) h).2.1⟩,λk k' b b' hb hb' hne' bb c c' h=>?_⟩;exact hrep.inj _ _ _ _ bb c c' (hσm k b hb) (hσm k' b' hb') (λe=>hne' (Key.num_inj e)) h
 unfold wpOp;rw[ho];simp only[hw,if_true];refine .inl ?_;obtain⟨dst,op,ty,pos,after,guard⟩:=o;simp only at hop hd hg hrd hK⊢;subst hop;have hfne:qb e f≠ .und:=λh=>by rw[h]at hcal;cases hcal
 have hf:=G2 (D:=D) (e:=e) (m:=m) hrep hfne λt ht=>hrd _ (.inr (.inl (Bh (by rw[ht];exact q5l))))
 obtain⟨cap,hfe,hcap⟩:=Oe hcal hf
 have hargs:AVs β H ((evs e xs.toList).map (qp D)) (xs.toList.map a.eval):=by
  have:= @AVs.of_ins β H a xs.toList (xs.toList.map λx=>qp D (qb e x)) (by simp) (λp hp=>by
   obtain⟨h1,h2⟩:=Ka hp;rw[h2]
   exact G2 hrep (hne _ h1) λt ht=>hrd _ (.inr (.inl (Bh (by rw[<-ht];exact q5k _ h1)))))
  simpa[evs,List.map_map,Function.comp_def]using this
 have hall:AVs β H ((evs e xs.toList++ps.map λp=>V.pp p.1 p.2).map (qp D)) (xs.toList.map a.eval++cap):=by
  rw[List.map_append];exact AVs.append hargs hcap
 have hc:=hcall.calls _ w H β hall hM hrep.hon hdom;unfold Oper.wp
 have hrun:(execOp a.eval ⟨dst,.call {callee:= .value f,args:=xs,argTypes:=ts},ty,pos,after,guard⟩).run P w= .ok (.enter g (xs.map a.eval++cap.toArray)) w:=by
  simp only[execOp,resolve,hfe,Deferred.ofValue,q6b,q6c,q6a,invoke];rw[show(#[]++Array.map a.eval xs++cap.toArray:Array Value)=Array.map a.eval xs++cap.toArray by simp];exact CH hcall.callable _ w
 rw[hrun];show Calls P g (xs.map a.eval++cap.toArray) w _;have ea:(xs.toList.map a.eval++cap).toArray=xs.map a.eval++cap.toArray:=Array.ext' (by simp);rw[<-ea];refine hc.mono λe' w'⟨u,H',β',he,hsim,hR,hM'⟩=>?_
 subst he;exact hK _ w' H' β' (Rv hrep hs hσm hsim hR hM' hdom hKs hd) hsim.beta
end
end
noncomputable section
structure Rel (D:List Int) (E:Env) (lo U:Nat) (e:Env16) (s:S) (a:Act) (w:World) (H:Heap) (β:Bm):Prop where
 rep:RepF E (qo D e s.m) a w H β
 dom: ∀k,s.nx.num<=k->k<U->β k=none
 bet: ∀k,k<lo\/s.nx.num<=k->β k=E.β0 k
structure EOK (D:List Int) (E:Env) (lo:Nat) (e:Env16) (s:S):Prop where
 slots: ∀t,(slot e t).ok
 sok:SOK D s
 le:lo<=s.nx.num
 ks: ∀k∈E.Ks,k<lo
 old: ∀k,mget s.m k≠none->k.num∈E.Ks\/lo<=k.num
def RcOk(D:List Int)(P:Program)(rc:FuncId->List V->S->RO):Prop:=
 ∀f vs s v s',rc f vs s= .ok v s'->(∀x∈vs,x.ok/\x≠ .und)->SOK D s->CallOk D P f vs s v s'
def BO:X->Exit
 | .nrm=> .normal
 | .ext id=>bif Nat.blt id 1048576 then .exit id else .goto (id-1048576)
 | .ret=> .ret
def A8(D:List Int)(E:Env)(lo U:Nat)(x:X)(e:Env16)(s:S):Exit->Act->World->Prop:=λex a w=>ex=BO x/\ ∃H β,Rel D E lo U e s a w H β
section
variable {D:List Int} {P:Program} {rc:FuncId->List V->S->RO}
theorem Dc{e:Env16}{dst:Option Tmp}{v:V}(hd: ∀t,dst=some t->t<512)(he: ∀t,(slot e t).ok)(hv:v.ok): ∀t,(slot (jb e dst v) t).ok:=by
 intro t
 cases dst with
 |none=>exact he t
 |some d=>
  show(slot (eset e d v) t).ok;rw[CJ v (hd d rfl)];split
  .exact hv
  .exact he t
theorem TT{e:Env16}{m m':qR}{dst:Option Tmp}{v:V}(hv:v≠ .und)(hd: ∀t,dst=some t->t<512):(qo D e m).upd (Wof dst (qp D v) (lwA D m m'))=qo D (jb e dst v) m':=by
 have hav:v.av D=some (qp D v):=by
  rcases V.av_or (D:=D) v with e1|⟨l,e1⟩|e1
  .exact absurd e1 hv
  .rw[e1];rfl
  .rw[qp,e1];rfl
 funext ℓ;rcases q5P ℓ with h|h
 .obtain⟨t,rfl⟩: ∃t,ℓ=2*t:=⟨ℓ/2,by omega⟩
  simp only[FS.upd,jW];rw[qA,qA]
  cases dst with
  |none=>simp[jb]
  |some d'=>
   show(match(if some d'=some t then some (some (XV.av (qp D v)))else none)with|some v=>v|none=>_)=((slot (eset e d' v) t).av D).map .av;rw[CJ v (hd d' rfl)];by_cases e1:t=d'
   .subst e1;simp[hav]
   .have e2: ¬(some d':Option Tmp)=some t:=λh=>e1 (Option.some.inj h).symm
    rw[if_neg e2,if_neg e1]
 .obtain⟨k,rfl⟩: ∃k,ℓ=2*k+1:=⟨ℓ/2,by omega⟩
  simp only[FS.upd,vd,Ew];rw[qf,qf];unfold chg
  cases mblk m' k with
  |some b=>rfl
  |none=>cases mblk m k<;>rfl
theorem Pu{m:qR}{nx:Key}{dn:Nat}{sc:List (Nat×Nat)}{v v':V}{b:KB}{s':S}(h:putK m nx dn sc v b= .ok v' s'):v'=v/\s'.m=mset m nx (some b)/\s'.nx.num=nx.num+1/\s'.dn=dn/\s'.sc=sc:=by
 unfold putK at h;split at h
 .rename_i k' hk
  cases h;exact⟨rfl,rfl,Key.succ_num hk,rfl,rfl⟩
 .cases h
theorem X3{s s':S}{r:KR}{v:V}(h:ap s r= .ok v s'):r≠ .bad/\v=r.res/\s'.m=apM D s.m s.nx r/\s'.dn=s.dn/\s'.sc=s.sc/\
  (((∃v ks b,r= .nw v ks b)\/(∃v ks k b,r= .mv v ks k b))->s'.nx.num=s.nx.num+1)/\((¬((∃v ks b,r= .nw v ks b)\/(∃v ks k b,r= .mv v ks k b)))->s'.nx=s.nx):=by
 cases r with
 |bad=>cases h
 |val v ks=>cases h;exact⟨by simp,rfl,rfl,rfl,rfl,λh=>(by rcases h with⟨_,_,_,h⟩|⟨_,_,_,_,h⟩<;>cases h),λ_=>rfl⟩
 |wr v ks k b=>cases h;exact⟨by simp,rfl,rfl,rfl,rfl,λh=>(by rcases h with⟨_,_,_,h⟩|⟨_,_,_,_,h⟩<;>cases h),λ_=>rfl⟩
 |nw v ks b=>
  obtain⟨h1,h2,h3,h4,h5⟩:=Pu h;exact⟨by simp,h1,h2,h4,h5,λ_=>h3,λh=>absurd (.inl ⟨_,_,_,rfl⟩) h⟩
 |mv v ks k b=>
  obtain⟨h1,h2,h3,h4,h5⟩:=Pu h;exact⟨by simp,h1,h2,h4,h5,λ_=>h3,λh=>absurd (.inr ⟨_,_,_,_,rfl⟩) h⟩
theorem H8{s:S}(h:SOK D s):mget s.m s.nx=none:=by
 cases hb:mget s.m s.nx with
 |none=>rfl
 |some b=>have:=h.lt s.nx (by rw[hb];simp);omega
structure FP (all:List Oper) (o:Oper) (p:PI) (s s':S):Prop where
 rd: ∀ℓ∈p.rd,(∃t,ℓ=2*t/\(ℓ∈gslK all o.guard\/ℓ∈je o.op.operands.toList))\/ ∃k b,mget s.m k=some b/\ℓ=2*k.num+1
 wr: ∀ℓ,look p.W ℓ≠none->(∃t,o.dst=some t/\ℓ=2*t)\/ ∃k:Key,ℓ=2*k.num+1/\(mget s.m k≠none\/(s.nx.num<=k.num/\k.num<s'.nx.num))
 str: ∀ℓ x,look p.W ℓ=some (some x)->XStr ℓ x
theorem Fa{all:List Oper}{g:Option (Nat×Bool)}{ℓ:Nat}(h:ℓ∈gslK all g): ∃t,ℓ=2*t:=by
 unfold gslK at h;split at h
 .simp at h
 .split at h
  .rename_i t _;simp at h;exact⟨t,h⟩
  .simp at h
theorem jU: ∀{l:List Operand}{ℓ:Nat},ℓ∈je l-> ∃t,ℓ=2*t
 |[],ℓ,h=>by simp[je]at h
 |x::l,ℓ,h=>by
  cases x with
  |tmp t=>
   simp only[je,q5j]at h;rcases h with h|h
   .exact⟨t,h⟩
   .exact jU h
  |_=>simp only[je]at h;exact jU h
theorem Ap{dst:Option Tmp}{R:AV}{Lw:List (Nat×Option Blk)}{ℓ:Nat}(h:look (Wof dst R Lw) ℓ≠none):(∃t,dst=some t/\ℓ=2*t)\/ ∃k,ℓ=2*k+1/\look Lw k≠none:=by
 rcases q5P ℓ with h2|h2
 .obtain⟨t,rfl⟩: ∃t,ℓ=2*t:=⟨ℓ/2,by omega⟩
  rw[jW]at h;split at h
  .rename_i e;exact .inl ⟨t,e,rfl⟩
  .exact absurd rfl h
 .obtain⟨k,rfl⟩: ∃k,ℓ=2*k+1:=⟨ℓ/2,by omega⟩
  rw[vd]at h;refine .inr ⟨k,rfl,λe=>?_⟩;rw[e]at h;exact h rfl
theorem J8{dst:Option Tmp}{v:V}{Lw:List (Nat×Option Blk)}(hv:v≠ .und)(hL: ∀k b,look Lw k=some (some b)->XStr (2*k+1) (.bl b)){ℓ:Nat}{x:XV}(h:look (Wof dst (qp D v) Lw) ℓ=some (some x)):XStr ℓ x:=by
 rcases q5P ℓ with h2|h2
 .obtain⟨t,rfl⟩: ∃t,ℓ=2*t:=⟨ℓ/2,by omega⟩
  rw[jW]at h;split at h
  .cases h
   have hav:v.av D=some (qp D v):=by
    rcases V.av_or (D:=D) v with e1|⟨l,e1⟩|e1
    .exact absurd e1 hv
    .rw[e1];rfl
    .rw[qp,e1];rfl
   exact Rw hav t
  .cases h
 .obtain⟨k,rfl⟩: ∃k,ℓ=2*k+1:=⟨ℓ/2,by omega⟩
  rw[vd]at h
  cases hl:look Lw k with
  |none=>rw[hl]at h;cases h
  |some b=>
   cases b with
   |none=>rw[hl]at h;cases h
   |some b=>rw[hl]at h;cases h;exact hL k b hl
theorem MR{d:Key}{r:KR}{k:Nat}(h:look (lw D d r) k≠none):(∃v ks q b,(r= .wr v ks q b\/r= .mv v ks q b)/\k=q.num)\/(k=d.num/\((∃v ks b,r= .nw v ks b)\/ ∃v ks q b,r= .mv v ks q b)):=by
 cases r with
 |bad=>exact absurd rfl h
 |val v ks=>exact absurd rfl h
 |wr v ks q b=>
  by_cases e:q.num=k
  .exact .inl ⟨v,ks,q,b,.inl rfl,e.symm⟩
  .exact absurd (by simp[lw,look,j5 e]) h
 |nw v ks b=>
  by_cases e:d.num=k
  .exact .inr ⟨e.symm,.inl ⟨v,ks,b,rfl⟩⟩
  .exact absurd (by simp[lw,look,j5 e]) h
 |mv v ks q b=>
  by_cases e:q.num=k
  .exact .inl ⟨v,ks,q,b,.inr rfl,e.symm⟩
  .by_cases e2:d.num=k
   .exact .inr ⟨e2.symm,.inr ⟨v,ks,q,b,rfl⟩⟩
   .exact absurd (by simp[lw,look,j5 e,j5 e2]) h
theorem q1t{d:Key}{r:KR}{k:Nat}{b:Blk}(h:look (lw D d r) k=some (some b)):XStr (2*k+1) (.bl b):=by
 have hb: ∀q c,look (lw D d r) q=some (some c)-> ∃kb:KB,c=kb.blk D:=by
  intro q c h
  cases r with
  |bad=>cases h
  |val v ks=>cases h
  |wr v ks q' b=>
   simp only[lw,look]at h;cases hq:Nat.beq q'.num q<;>rw[hq]at h
   .cases h
   .cases h;exact⟨b,rfl⟩
  |nw v ks b=>
   simp only[lw,look]at h;cases hq:Nat.beq d.num q<;>rw[hq]at h
   .cases h
   .cases h;exact⟨b,rfl⟩
  |mv v ks q' b=>
   simp only[lw,look]at h;cases hq:Nat.beq q'.num q<;>rw[hq]at h
   .simp only[cond_false]at h
    cases hq2:Nat.beq d.num q<;>rw[hq2]at h
    .cases h
    .cases h;exact⟨b,rfl⟩
   .cases h
 obtain⟨kb,rfl⟩:=hb k b h;exact Jd kb k
theorem q11{all:List Oper}{o:Oper}{s s':S}{d:Key}{r:KR}(hks: ∀p∈r.ks,mget s.m p.1=some p.2)(hgood:r.good r.ks)(hne:r.res≠ .und)(hd:d=s.nx)(hnx:((∃v ks b,r= .nw v ks b)\/(∃v ks k b,r= .mv v ks k b))->s'.nx.num=s.nx.num+1):
  FP all o ⟨gslK all o.guard++je o.op.operands.toList++r.ks.map (λp=>2*p.1.num+1),Wof o.dst (qp D r.res) (lw D d r),[],[],none⟩ s s':=by
 subst hd;refine⟨λℓ hℓ=>?_,λℓ hℓ=>?_,λℓ x hx=>J8 hne (λk b h=>q1t h) hx⟩
 .simp only[q5i,List.mem_map]at hℓ
  rcases hℓ with(h|h)|⟨p,hp,rfl⟩
  .obtain⟨t,ht⟩:=Fa h;exact .inl ⟨t,ht,.inl h⟩
  .obtain⟨t,ht⟩:=jU h;exact .inl ⟨t,ht,.inr h⟩
  .exact .inr ⟨p.1,p.2,hks p hp,rfl⟩
 .rcases Ap hℓ with h|⟨k,rfl,h⟩
  .exact .inl h
  .rcases MR h with⟨v,ks,q,b,h1,rfl⟩|⟨rfl,h1⟩
   .refine .inr ⟨q,rfl,.inl ?_⟩
    have: ∃b',(q,b')∈r.ks:=by rcases h1 with rfl|rfl<;>exact hgood.2
    obtain⟨b',hb'⟩:=this;rw[hks _ hb'];simp
   .exact .inr ⟨s.nx,rfl,.inr ⟨q5H _,by rw[hnx h1];omega⟩⟩
theorem Yv{all:List Oper}{o:Oper}{s s':S}{f:Operand}{xs:Array Operand}{ts:Array TypeId}{g:FuncId}{vs:List V}{v:V}(hop:o.op= .call {callee:= .value f,args:=xs,argTypes:=ts})(hc:CallOk D P g vs s v s'):
  FP all o ⟨gslK all o.guard++je (f::xs.toList)++(ids.filter λn=>(mblk s.m n).isSome).map (λn=>2*n+1),Wof o.dst (qp D v) (lwA D s.m s'.m),[],[],none⟩ s s':=by
 have hops:o.op.operands.toList=f::xs.toList:=by rw[hop];simp[Op.operands,Call.operands]
 refine⟨λℓ hℓ=>?_,λℓ hℓ=>?_,λℓ x hx=>J8 hc.ne (λk b h=>?_) hx⟩
 .simp only[q5i,List.mem_map,q5m]at hℓ
  rcases hℓ with(h|h)|⟨n,⟨_,hn⟩,rfl⟩
  .obtain⟨t,ht⟩:=Fa h;exact .inl ⟨t,ht,.inl h⟩
  .obtain⟨t,ht⟩:=jU h;exact .inl ⟨t,ht,.inr (by rw[hops];exact h)⟩
  .obtain⟨b,hb⟩:=Option.isSome_iff_exists.1 hn
   obtain⟨k,rfl,hk⟩:=z7 hb;exact .inr ⟨k,b,hk,rfl⟩
 .rcases Ap hℓ with h|⟨n,rfl,h⟩
  .exact .inl h
  .rw[Ew]at h
   unfold chg at h
   cases hb:mblk s'.m n with
   |some b=>
    obtain⟨k,rfl,hk⟩:=z7 hb;refine .inr ⟨k,rfl,?_⟩;rcases hc.old k (by rw[hk];simp)with h1|h1
    .exact .inl h1
    .exact .inr ⟨h1,hc.sok.lt k (by rw[hk];simp)⟩
   |none=>
    rw[hb]at h
    cases hb2:mblk s.m n with
    |none=>rw[hb2]at h;exact absurd rfl h
    |some b=>
     obtain⟨k,rfl,hk⟩:=z7 hb2;exact .inr ⟨k,rfl,.inl (by rw[hk];simp)⟩
 .rw[Ew]at h
  unfold chg at h
  cases hb:mblk s'.m k with
  |some b'=>rw[hb]at h;cases h;exact Jd b' k
  |none=>
   rw[hb]at h
   cases hb2:mblk s.m k with
   |none=>rw[hb2]at h;cases h
   |some b'=>rw[hb2]at h;cases h
theorem JQ{E:Env}{ops:Array Oper}{i n:Nat}{o:Oper}{lo:Nat}{e:Env16}{s s':S}{v:V}(ho:ops[i]?=some o)(hn:E.n=n)(hdk:zi n o=true)(hg:jd ops.toList e o.guard=some true)
  (he:EOK D E lo e s){r:KR}(hkk:jk D P o.op o.type o.op.operands.toList (o.op.operands.toList.map (qb e)) s.m s.nx r)(hap:ap s r= .ok v s'):GoodK P E ops i ⟨gslK ops.toList o.guard++je o.op.operands.toList++r.ks.map (λp=>2*p.1.num+1),Wof o.dst (qp D r.res) (lw D s.nx r),[],[],none⟩ noAl s.nx.num s'.nx.num (qo D e s.m)/\(qo D e s.m).upd (Wof o.dst (qp D r.res) (lw D s.nx r))=qo D (jb e o.dst v) s'.m/\EOK D E lo (jb e o.dst v) s'/\s.nx.num<=s'.nx.num/\FP ops.toList o ⟨gslK ops.toList o.guard++je o.op.operands.toList++r.ks.map (λp=>2*p.1.num+1),Wof o.dst (qp D r.res) (lw D s.nx r),[],[],none⟩ s s'/\v=r.res/\v≠ .und/\v.ok:=by
 have hd: ∀t,o.dst=some t->t<E.n/\t<512:=λt ht=>by
  unfold zi at hdk;rw[ht]at hdk;simp only[q4R]at hdk;rw[hn];exact⟨by simpa using hdk.1,by simpa using hdk.2⟩
 have hKs: ∀k∈E.Ks,k<s.nx.num:=λk hk=>q5K (he.ks k hk) he.le
 have hfr:=H8 he.sok;have hk:=hkk;have ha:=hap;obtain⟨a1,a2,a3,a4,a5,a6,a7⟩:=X3 (D:=D) ha;obtain⟨k1,k2,k3,k4,k5,k6⟩:=hk a1 (λx hx=>by obtain⟨y,_,rfl⟩:=List.mem_map.1 hx;exact Ia he.slots y) he.sok.ok;subst a2
 have hmv: ∀v ks k b,r= .mv v ks k b->k≠s.nx:=by
  intro v ks k b e1 e2;subst e1;subst e2
  obtain⟨_,b',hb'⟩:=k6;have:=k2 _ hb';rw[hfr]at this;cases this
 have hle:s.nx.num<=s'.nx.num:=by
  by_cases hq:(∃v ks b,r= .nw v ks b)\/(∃v ks k b,r= .mv v ks k b)
  .rw[a6 hq];omega
  .rw[a7 hq];exact q5H _
 refine⟨Mx (al:=noAl) (hi:=s'.nx.num) ho hg (λt ht=>(hd t ht).1) (λ_ _ hp=>hp.elim) (λx hx=>k1 _ (List.mem_map.2 ⟨x,hx,rfl⟩)) k2 k6 hfr ?_ (λhq=>by rw[a6 hq];omega) hKs,?_,?_,hle,q11 k2 k6 k5 rfl a6,rfl,k5,k4⟩
 .intro kin h1 h2
  have:kin=vn D r.ks:=by
   unfold vn
   have key: ∀(ks:List (Key×KB))(kin:List (Nat×Blk)),(∀p∈ks,mget s.m p.1=some p.2)->kin.map (·.1)=ks.map (·.1.num)->(∀p∈kin,qo D e s.m (2*p.1+1)=some (.bl p.2)\/noAl (2*p.1+1) (XV.bl p.2))->kin=ks.map λp=>(p.1.num,p.2.blk D):=by
    intro ks
    induction ks with
    |nil=>intro kin _ h _;cases kin with|nil=>rfl|cons _ _=>simp at h
    |cons q ks ih=>
     intro kin hq h hh
     cases kin with
     |nil=>simp at h
     |cons p kin=>
      simp only[q5h,List.cons.injEq]at h;have h3:=hh p q5l;rw[h.1,jV (hq q q5l)]at h3;simp only[q68,XV.bl.injEq,noAl,or_false]at h3;rw[q5h,<-ih kin (λp hp=>hq p (q5k _ hp)) h.2 (λp hp=>hh p (q5k _ hp))]
      congr 1
      obtain⟨p1,p2⟩:=p;simp only at h h3⊢;rw[h.1,h3]
   exact key _ _ k2 h1 h2
  subst this;rw[show(o.op.operands.toList.map λx=>qp D (qb e x))=(o.op.operands.toList.map (qb e)).map (qp D) by rw[List.map_map];rfl];exact k3
 .rw[a3];exact HA k5 (λt ht=>(hd t ht).2) hmv
 .refine⟨Dc (λt ht=>(hd t ht).2) he.slots k4,⟨?_,?_,?_⟩,q5I he.le hle,he.ks,?_⟩
  .intro k b hb
   rw[a3]at hb
   cases r with
   |bad=>exact absurd rfl a1
   |val v ks=>exact he.sok.ok k b hb
   |wr v ks k' b'=>
    simp only[apM,zk]at hb;split at hb
    .cases hb;exact k6.1
    .exact he.sok.ok k b hb
   |nw v ks b'=>
    simp only[apM,zk]at hb;split at hb
    .cases hb;exact k6
    .exact he.sok.ok k b hb
   |mv v ks k' b'=>
    simp only[apM,zk]at hb;split at hb
    .cases hb;exact k6.1
    .split at hb
     .cases hb
     .exact he.sok.ok k b hb
  .intro k hk
   rw[a3]at hk
   cases r with
   |bad=>exact absurd rfl a1
   |val v ks=>exact q5K (he.sok.lt k hk) hle
   |wr v ks k' b'=>
    simp only[apM,zk]at hk;split at hk
    .rename_i e1;subst e1
     obtain⟨_,b'',hb''⟩:=k6;exact q5K (he.sok.lt k' (by rw[k2 _ hb''];simp)) hle
    .exact q5K (he.sok.lt k hk) hle
   |nw v ks b'=>
    have h1:=a6 (.inl ⟨_,_,_,rfl⟩);simp only[apM,zk]at hk;split at hk
    .rename_i e1;subst e1;omega
    .exact q5K (he.sok.lt k hk) hle
   |mv v ks k' b'=>
    have h1:=a6 (.inr ⟨_,_,_,_,rfl⟩);simp only[apM,zk]at hk;split at hk
    .rename_i e1;subst e1;omega
    .split at hk
     .exact absurd rfl hk
     .exact q5K (he.sok.lt k hk) hle
  .intro j p hp
   rw[a5]at hp;rw[a4];exact he.sok.agr j p hp
  .intro k hk
   rw[a3]at hk
   cases r with
   |bad=>exact absurd rfl a1
   |val v ks=>exact he.old k hk
   |wr v ks k' b'=>
    simp only[apM,zk]at hk;split at hk
    .rename_i e1;subst e1
     obtain⟨_,b'',hb''⟩:=k6;exact he.old k' (by rw[k2 _ hb''];simp)
    .exact he.old k hk
   |nw v ks b'=>
    simp only[apM,zk]at hk;split at hk
    .rename_i e1;subst e1;exact .inr he.le
    .exact he.old k hk
   |mv v ks k' b'=>
    simp only[apM,zk]at hk;split at hk
    .rename_i e1;subst e1;exact .inr he.le
    .split at hk
     .exact absurd rfl hk
     .exact he.old k hk
theorem Nr(hrc:RcOk D P rc){E:Env}{ops:Array Oper}{i n:Nat}{o:Oper}{lo:Nat}{e:Env16}{s s':S}{v:V}(ho:ops[i]?=some o)(hn:E.n=n)(hdk:zi n o=true)(hg:jd ops.toList e o.guard=some true)
  (he:EOK D E lo e s)(h:zD rc P e s o.op= .ok v s'): ∃p:PI,GoodK P E ops i p noAl s.nx.num s'.nx.num (qo D e s.m)/\(qo D e s.m).upd p.W=qo D (jb e o.dst v) s'.m/\EOK D E lo (jb e o.dst v) s'/\s.nx.num<=s'.nx.num/\FP ops.toList o p s s':=by
 have hd: ∀t,o.dst=some t->t<E.n/\t<512:=λt ht=>by
  unfold zi at hdk;rw[ht]at hdk;simp only[q4R]at hdk;rw[hn];exact⟨by simpa using hdk.1,by simpa using hdk.2⟩
 have hKs: ∀k∈E.Ks,k<s.nx.num:=λk hk=>q5K (he.ks k hk) he.le
 have hfr:=H8 he.sok
 have main: ∀{r:KR},jk D P o.op o.type o.op.operands.toList (o.op.operands.toList.map (qb e)) s.m s.nx r->ap s r= .ok v s'-> ∃p:PI,GoodK P E ops i p noAl s.nx.num s'.nx.num (qo D e s.m)/\(qo D e s.m).upd p.W=qo D (jb e o.dst v) s'.m/\EOK D E lo (jb e o.dst v) s'/\s.nx.num<=s'.nx.num/\FP ops.toList o p s s':=by
  intro r hk ha;obtain⟨q1,q2,q3,q4,q5,_⟩:=JQ ho hn hdk hg he hk ha;exact⟨_,q1,q2,q3,q4,q5⟩
 unfold zD at h;split at h
 .rename_i f xs ts hop
  unfold kcall at h;split at h
  .rename_i g ps hcal
   cases ha:AC (evs e xs.toList)with
   |false=>rw[ha]at h;cases h
   |true=>
    rw[ha]at h
    have hne: ∀x∈xs.toList,qb e x≠ .und:=λx hx=>by
     have:=(List.all_eq_true.1 ha) (qb e x) (List.mem_map.2 ⟨x,hx,rfl⟩);exact zx (by simpa using this)
    have hc:=hrc _ _ _ _ _ h (λx hx=>by
     rcases q5i.1 hx with hx|hx
     .obtain⟨y,hy,rfl⟩:=List.mem_map.1 hx
      exact⟨Ia he.slots y,hne y hy⟩
     .obtain⟨p,_,rfl⟩:=List.mem_map.1 hx
      exact⟨trivial,by simp⟩) he.sok
    refine⟨_,Se ho hop hg (λt ht=>(hd t ht).1) hcal hne hc (λk b hb=>hb) hKs,TT hc.ne (λt ht=>(hd t ht).2),?_,hc.le,Yv hop hc⟩;refine⟨Dc (λt ht=>(hd t ht).2) he.slots hc.ok,hc.sok,q5I he.le hc.le,he.ks,λk hk=>?_⟩;rcases hc.old k hk with h1|h1
    .exact he.old k h1
    .exact .inr (q5I he.le h1)
  .cases h
 .exact main (MM o.op) h
theorem YV{e:Env16}{m:qR}{d:Key}{ty:TypeId}{op:Op}{r:KR}(h:kopS P e m op=some r):jk D P op ty op.operands.toList (op.operands.toList.map (qb e)) m d r:=by
 unfold kopS at h;split at h
 .rename_i t x l hh
  injection h with h
  subst h;have e1:(Op.slice t x (some l) (some hh) none).operands.toList=[x,l,hh]:=by simp[Op.operands]
  rw[e1];exact UZ
 .rename_i t x l hh z
  injection h with h
  subst h;have e1:(Op.slice t x (some l) (some hh) (some z)).operands.toList=[x,l,hh,z]:=by simp[Op.operands]
  rw[e1];exact Hc
 .cases h
theorem Tz(hrc:RcOk D P rc){E:Env}{ops:Array Oper}{i n:Nat}{o:Oper}{lo:Nat}{e:Env16}{s s':S}{v:V}(ho:ops[i]?=some o)(hn:E.n=n)(hdk:zi n o=true)(hg:jd ops.toList e o.guard=some true)
  (he:EOK D E lo e s)(h:A5 rc P e s o.op= .ok v s'): ∃p:PI,GoodK P E ops i p noAl s.nx.num s'.nx.num (qo D e s.m)/\(qo D e s.m).upd p.W=qo D (jb e o.dst v) s'.m/\EOK D E lo (jb e o.dst v) s'/\s.nx.num<=s'.nx.num/\FP ops.toList o p s s':=by
 unfold A5 at h;split at h
 .rename_i r hk
  obtain⟨q1,q2,q3,q4,q5,_⟩:=JQ ho hn hdk hg he (YV hk) h;exact⟨_,q1,q2,q3,q4,q5⟩
 .exact Nr hrc ho hn hdk hg he h
theorem L0(hrc:RcOk D P rc){E:Env}{ops:Array Oper}{n lo U:Nat}(hn:E.n=n)(hds: ∀o∈ops.toList,zi n o=true): ∀(l:List Oper)(i:Nat)(e:Env16)(s:S)(x:X)(e':Env16)(s':S),l=ops.toList.drop i->
  A6 rc P ops.toList l e s= .ok x e' s'->EOK D E lo e s->s'.nx.num<=U->x= .nrm/\EOK D E lo e' s'/\s.nx.num<=s'.nx.num/\
   ∀a w H β,Rel D E lo U e s a w H β->wpOps P ops (A8 D E lo U .nrm e' s') (List.range' i (ops.size-i)) a w
 |[],i,e,s,x,e',s',hl,h,he,hU=>by
  cases h
  have hi:ops.size<=i:=by
   have:=congrArg List.length hl;simp at this;omega
  refine⟨rfl,he,q5H _,λa w H β hr=>?_⟩;rw[show ops.size-i=0 by omega];exact⟨rfl,H,β,hr⟩
 |o::r,i,e,s,x,e',s',hl,h,he,hU=>by
  have hi:i<ops.size:=by
   rcases q5L i ops.size with h'|h'
   .exact h'
   .rw[q4Z (by simpa using h')]at hl;cases hl
  have ho':ops.toList[i]?=some o:=by
   have:=congrArg List.head? hl;simpa[List.head?_drop]using this.symm
  have ho:ops[i]?=some o:=by simpa using ho'
  have hr':r=ops.toList.drop (i+1):=by
   have:=congrArg List.tail hl;simpa[List.tail_drop]using this
  have hom:o∈ops.toList:=q5n ho';have hdk:=hds o hom
  have hd: ∀t,o.dst=some t->t<E.n/\t<512:=λt ht=>by
   unfold zi at hdk;rw[ht]at hdk;simp only[q4R]at hdk;rw[hn];exact⟨by simpa using hdk.1,by simpa using hdk.2⟩
  have hrange:List.range' i (ops.size-i)=i::List.range' (i+1) (ops.size-(i+1)):=by
   rw[show ops.size-i=(ops.size-(i+1))+1 by omega];rfl
  --one step
  have step: ∀{p:PI}{e1:Env16}{s1:S},GoodK P E ops i p noAl s.nx.num s1.nx.num (qo D e s.m)->(qo D e s.m).upd p.W=qo D e1 s1.m->EOK D E lo e1 s1->s.nx.num<=s1.nx.num->A6 rc P ops.toList r e1 s1= .ok x e' s'->
    x= .nrm/\EOK D E lo e' s'/\s.nx.num<=s'.nx.num/\ ∀a w H β,Rel D E lo U e s a w H β->wpOps P ops (A8 D E lo U .nrm e' s') (List.range' i (ops.size-i)) a w:=by
   intro p e1 s1 hG hW he1 hle hrun;obtain⟨r1,r2,r3,r4⟩:=L0 hrc hn hds r (i+1) e1 s1 x e' s' hr' hrun he1 hU;refine⟨r1,r2,q5I hle r3,λa w H β hrel=>?_⟩;rw[hrange,wpOps_cons];refine hG _ (NE e s.m) (λℓ _=> .inl rfl) a w H β _ _ hrel.rep (λk h1 h2=>hrel.dom k h1 (by omega)) ?_;intro a' w' H' β' hrep' hβ;rw[hW]at hrep';refine r4 a' w' H' β' ⟨hrep',λk h1 h2=>?_,λk hk=>?_⟩
   .rw[hβ k (.inr h1)];exact hrel.dom k (by omega) h2
   .have:k<s.nx.num\/s1.nx.num<=k:=by
     rcases hk with hk|hk
     .exact .inl (q5K hk he.le)
     .exact .inr hk
    rw[hβ k this];refine hrel.bet k ?_;rcases hk with hk|hk
    .exact .inl hk
    .exact .inr (by omega)
  have h2: @Option.rec Bool (λ_=>R) (.no [6]) (λg=> @Bool.rec (λ_=>R) (A6 rc P ops.toList r (jb e o.dst (.tu [])) s)
   (@RO.rec (λ_=>R) (λv s'=>A6 rc P ops.toList r (jb e o.dst v) s') (λt=> .no (r.length::t)) (λn=> .need n) (A5 rc P e s o.op)) g) (jd ops.toList e o.guard)= .ok x e' s':=h
  cases hg:jd ops.toList e o.guard with
  |none=>rw[hg]at h2;cases h2
  |some g=>
   rw[hg]at h2
   cases g with
   |false=>
    have hW:(qo D e s.m).upd (Wof o.dst (qp D (.tu [])) [])=qo D (jb e o.dst (.tu [])) s.m:=by
     have:=HA (D:=D) (e:=e) (m:=s.m) (d:=s.nx) (r:= .val (.tu []) []) (dst:=o.dst) (v:= .tu []) (by simp) (λt ht=>(hd t ht).2) (λ_ _ _ _ h=>by cases h);exact this
    exact step (KC ho hg (λt ht=>(hd t ht).1)) hW ⟨Dc (λt ht=>(hd t ht).2) he.slots (λx hx=>by simp at hx),he.sok,he.le,he.ks,he.old⟩ (q5H _) h2
   |true=>
    simp only at h2
    cases hop:A5 rc P e s o.op with
    |no t=>rw[hop]at h2;cases h2
    |need n=>rw[hop]at h2;cases h2
    |ok v s1=>
     rw[hop]at h2;obtain⟨p,g1,g2,g3,g4,_⟩:=Tz hrc ho hn hdk hg he hop;exact step g1 g2 g3 g4 h2
end
end
noncomputable section
def Vl(r:KR):Prop:=r= .bad\/ ∃v,r= .val v []
def Nw(r:KR):Prop:=r= .bad\/ ∃v b,r= .nw v [] b
theorem Vl.bad:Vl .bad:= .inl rfl
theorem Vl.val(v:V):Vl (.val v []):= .inr ⟨v,rfl⟩
theorem Vl.rc{a b:KR}{c:Bool}(ha:Vl a)(hb:Vl b):Vl (@Bool.rec (λ_=>KR) a b c):=by cases c;exact ha;exact hb
theorem Nw.bad:Nw .bad:= .inl rfl
theorem Nw.nw(v:V)(b:KB):Nw (.nw v [] b):= .inr ⟨v,b,rfl⟩
theorem Nw.rc{a b:KR}{c:Bool}(ha:Nw a)(hb:Nw b):Nw (@Bool.rec (λ_=>KR) a b c):=by cases c;exact ha;exact hb
section
variable {P:Program} {e:Env16} {m:qR} {d:Key}
theorem PX{v:V}:Vl (Bg v):=by unfold Bg;exact Vl.rc (Vl.val _) Vl.bad
theorem U7{v:V}:Vl (retV v):=by unfold retV;split;exact Vl.bad;exact Vl.val _
theorem q2S {op : BinOp} {t : TypeId} {x y : V} : Vl (kNil P op t x y) := by
  first
  | exact Vl.bad
  | (unfold kNil kAg
     repeat' first | exact Vl.bad | exact U7 | apply Vl.rc | split)
theorem DX{op:BinOp}{t:TypeId}{x y:V}:Vl (kBin P op t x y):=by
 unfold kBin
 repeat' first|exact Vl.bad|exact q2S|exact U7|apply Vl.rc|split
theorem XM{op:UnOp}{v:V}:Vl (kUn P op v):=by
 unfold kUn
 repeat' first|exact Vl.bad|exact Vl.val _|apply Vl.rc|split
theorem NJ{s:TypeId}{f:Nat}{p:V}:Vl (jY P s f p):=by
 unfold jY
 repeat' first|exact Vl.bad|exact Vl.val _|apply Vl.rc|split
theorem NL{t:TypeId}{p i:V}:Vl (jZ P t p i):=by
 unfold jZ
 repeat' first|exact Vl.bad|exact Vl.val _|apply Vl.rc|split
theorem Ri{v:V}{i:Nat}:Vl (Ak v i):=by
 unfold Ak
 repeat' first|exact Vl.bad|exact Vl.val _|apply Vl.rc|split
theorem NH{t:TypeId}{is:List Nat}{vs:List V}:Vl (Cw P t is vs):=by
 unfold Cw
 repeat' first|exact Vl.bad|exact Vl.val _|apply Vl.rc|split
theorem PY{a b c:V}:Vl (D0 a b c):=by
 unfold D0
 repeat' first|exact Vl.bad|exact Vl.val _|apply Vl.rc|split
theorem K3{s t:TypeId}{v:V}:Vl (CZ P s t v):=by
 unfold CZ
 repeat' first|exact Vl.bad|exact Vl.val _|apply Vl.rc|split
theorem CO{t:TypeId}{x:V}{lo hi:Option V}:Vl (vW P t x lo hi):=by
 unfold vW Jy
 repeat' first|exact Vl.bad|exact Vl.val _|apply Vl.rc|split
theorem Ov{v:V}:Vl (wD v):=by
 unfold wD
 repeat' first|exact Vl.bad|exact Vl.val _|apply Vl.rc|split
theorem PW{fn:Fn}{fs:Array Operand}{vs:List V}:Vl (Bf fn fs vs):=by
 unfold Bf
 repeat' first|exact Vl.bad|exact Vl.val _|apply Vl.rc|split
theorem U5{g:Bool}{s:Nat}{v:V}{o:Nat}:Vl (ldS g s v o []):=by
 unfold ldS
 repeat' first|exact Vl.bad|exact Vl.val _|apply Vl.rc|split
theorem NI{s:TypeId}{f:Nat}{x:V}:Vl (Cy P s f x):=by
 unfold Cy
 repeat' first|exact Vl.bad|exact U5|apply Vl.rc|split
theorem NK{t:TypeId}{x i:V}:Vl (Cz P t x i):=by
 unfold Cz Jx Gb
 repeat' first|exact Vl.bad|exact Vl.val _|exact U5|apply Vl.rc|split
theorem NM{t:TypeId}{v:V}:Vl (kLen P t v):=by
 unfold kLen
 repeat' first|exact Vl.bad|exact Vl.val _|apply Vl.rc|split
theorem q2R{t:TypeId}{v:V}:Vl (kCap P t v):=by
 unfold kCap
 repeat' first|exact Vl.bad|exact Vl.val _|apply Vl.rc|split
theorem U6{b:Bool}{x y:V}:Vl (At b x y):=by
 unfold At
 repeat' first|exact Vl.bad|exact Vl.val _|apply Vl.rc|split
theorem RE(op:Op):cls P op<=3:=by
 unfold cls;split<;>first|omega|(split<;>omega)
theorem kop0{op:Op}(h:cls P op=0):Vl (kop P e m d op):=by
 cases op with
 |move x=>exact PX
 |assign x=>exact PX
 |binOp op t x y t'=>exact DX
 |unOp op t x=>exact XM (P:=P)
 |fieldAddr s x f=>exact NJ
 |indexAddr t x y=>exact NL
 |extract x i=>exact Ri
 |build t ps=>exact NH
 |pick c x y=>exact PY
 |makeMap t r=>cases r<;>cases h
 |convert s t x=>
  show Vl (wh P m s t (qb e x));unfold wh;simp only[cls]at h;split at h
  .rename_i k hk;first|exact K3|(rw[hk];exact K3)
  .cases h
 |slice t x lo hi mx=>
  cases mx with
  |none=>exact CO
  |some z=>exact Vl.bad
 |nilCheck x=>exact Ov
 |makeFunc fn fs cs=>exact PW
 |field s x f=>exact NI
 |index t x y=>exact NK
 |call c=>
  obtain⟨cl,xs,ts⟩:=c
  cases cl with
  |builtin b=>
   show Vl (zj P b ts.toList (evs e xs.toList) m d);unfold zj;cases b<;>first|(exfalso;revert h;simp[cls];done)|skip
   all_goals simp only
   all_goals split<;>first|exact Vl.bad|exact NM|exact q2R|exact U6
  |_=>cases h
 |_=>cases h
theorem kop1{op:Op}(h:cls P op=1):Nw (kop P e m d op):=by
 cases op with
 |makeMap t r=>
  cases r with
  |none=>first|exact Nw.bad|(show Nw (CA P t d);unfold CA;split<;>first|exact Nw.nw _ _|exact Nw.bad)
  |some z=>cases h
 |convert s t x=>simp only[cls]at h;split at h<;>cases h
 |alloc t=>show Nw (Cv P t d);unfold Cv;exact Nw.rc (Nw.nw _ _) Nw.bad
 |box t x=>show Nw (kBox d (qb e x));unfold kBox;exact Nw.rc Nw.bad (Nw.nw _ _)
 |buildSlice t n ps=>
  show Nw (z4 P t n _ _ d);unfold z4
  repeat' first|exact Nw.bad|exact Nw.nw _ _|apply Nw.rc|split
 |makeSlice t x y=>
  show Nw (zy P t _ _ d);unfold zy
  repeat' first|exact Nw.bad|exact Nw.nw _ _|apply Nw.rc|split
 |call c=>
  obtain⟨cl,xs,ts⟩:=c
  cases cl with
  |builtin b=>exfalso;revert h;cases b<;>simp[cls]
  |_=>cases h
 |_=>cases h
theorem kop2{op:Op}(h:cls P op=2):kop P e m d op=rdO P e m op:=by
 cases op with
 |makeMap t r=>cases r<;>cases h
 |convert s t x=>simp only[cls]at h;split at h<;>cases h
 |load t x=>rfl
 |lookup t x y c=>rfl
 |call c=>
  obtain⟨cl,xs,ts⟩:=c
  cases cl with
  |builtin b=>exfalso;revert h;cases b<;>simp[cls]
  |_=>cases h
 |_=>cases h
theorem KZ{rc:FuncId->List V->S->RO}{s:S}{op:Op}(h:cls P op<3):zD rc P e s op=ap s (kop P e s.m s.nx op):=by
 cases op with
 |call c=>
  obtain⟨cl,xs,ts⟩:=c
  cases cl with
  |value f=>exact absurd h (Nat.lt_irrefl 3)
  |builtin b=>rfl
  |_=>exact absurd h (Nat.lt_irrefl 3)
 |_=>rfl
def ptrK(p:V):Option Key:=match p with| .pp k _=>some k| .ee k _ _ _=>some k|_=>none
theorem SK{t:TypeId}{v:V}{o:Nat}{ks:List (Key×KB)}:ldV P t v o ks= .bad\/ ∃w,ldV P t v o ks= .val w ks:=by
 unfold ldV;split
 .rename_i g s _
  unfold ldG
  cases hc:Nat.beq o 0&&Nat.beq s v.size&&xorB g v.on with
  |true=>exact .inr ⟨v,rfl⟩
  |false=>
   simp only;unfold ldS;split
   .split
    .exact .inl rfl
    .exact .inr ⟨_,rfl⟩
   .exact .inl rfl
 .exact .inl rfl
theorem Oo{t:TypeId}{p:V}(h:(v4 P m t p).res≠ .und): ∃k b,ptrK p=some k/\mget m k=some b/\v4 P m t p= .val (v4 P m t p).res [(k,b)]:=by
 have key: ∀{k:Key}{b:KB}{v:V}{o:Nat}{r:KR},r=ldV P t v o [(k,b)]->r.res≠ .und->r= .val r.res [(k,b)]:=by
  intro k b v o r hr hne;rcases SK (P:=P) (t:=t) (v:=v) (o:=o) (ks:=[(k,b)])with h|⟨w,h⟩
  .rw[h]at hr;subst hr;exact absurd rfl hne
  .rw[h]at hr;subst hr;rfl
 unfold v4 at h⊢;split at h
 .rename_i k o
  split at h
  .rename_i v hb
   exact⟨k,_,rfl,hb,key rfl h⟩
  .exact absurd rfl h
 .rename_i k i o w
  split at h
  .rename_i es n q hb
   cases hc:Nat.beq w es&&Nat.blt i n with
   |false=>rw[hc]at h;exact absurd rfl h
   |true=>rw[hc]at h;exact⟨k,_,rfl,hb,key rfl h⟩
  .rename_i es n q hb
   cases hc:Nat.beq w es&&Nat.blt i n with
   |false=>rw[hc]at h;exact absurd rfl h
   |true=>rw[hc]at h;exact⟨k,_,rfl,hb,key rfl h⟩
  .exact absurd rfl h
 .exact absurd rfl h
def rdK(e:Env16)(op:Op):Option Key:=match op with
 | .load t x=>ptrK (qb e x)
 | .lookup t x y c=>(match qb e x with| .mm k=>some k|_=>none)
 |_=>none
theorem Vm{m:qR}{t:TypeId}{c:Bool}{u v:V}:(vC P m t c u v).res≠ .und-> ∃k b,(match(generalizing:=false) u with| .mm k=>some k|_=>none)=some k/\mget m k=some b/\vC P m t c u v= .val (vC P m t c u v).res [(k,b)]:=λh=>absurd rfl h
theorem EE{e:Env16}{m:qR}{op:Op}(h:(rdO P e m op).res≠ .und): ∃k b,rdK e op=some k/\mget m k=some b/\rdO P e m op= .val (rdO P e m op).res [(k,b)]:=by
 cases op with
 |load t x=>exact Oo h
 |lookup t x y c=>
  have h:(vC P m t c (qb e x) (qb e y)).res≠ .und:=h;show∃k b,(match(generalizing:=false) qb e x with| .mm k=>some k|_=>none)=some k/\mget m k=some b/\vC P m t c (qb e x) (qb e y)= .val (vC P m t c (qb e x) (qb e y)).res [(k,b)];exact Vm h
 |_=>exact absurd rfl h
theorem wQ: ∀(z:List Key)(m:qR)(k:Key),mget (rmK m z) k=if k∈z then none else mget m k
 |[],m,k=>by simp[rmK]
 |a::z,m,k=>by
  have:=wQ z (mset m a none) k;show mget (rmK (mset m a none) z) k=_;rw[this,zk];by_cases h1:k∈z
  .simp[h1]
  .by_cases h2:a=k
   .subst h2;simp
   .have: ¬k=a:=λh=>h2 h.symm
    simp[h1,h2,this]
theorem B0(m0:qR): ∀(z:List Key)(m:qR)(k:Key),mget (reK m0 m z) k=if k∈z/\mget m0 k≠none then mget m0 k else mget m k
 |[],m,k=>by simp[reK]
 |a::z,m,k=>by
  cases ha:mget m0 a with
  |none=>
   have e1:reK m0 m (a::z)=reK m0 m z:=by unfold reK;rw[List.foldl_cons,ha]
   rw[e1,B0 m0 z m k];by_cases h2:k=a
   .subst h2;simp[ha]
   .simp[h2]
  |some b=>
   have e1:reK m0 m (a::z)=reK m0 (mset m a (some b)) z:=by unfold reK;rw[List.foldl_cons,ha]
   rw[e1,B0 m0 z _ k,zk];by_cases h2:a=k
   .subst h2;simp[ha]
   .have h3: ¬k=a:=λh=>h2 h.symm
    simp[h2,h3]
end
theorem Dq: ∀{l:List Operand}{ℓ:Nat},ℓ∈je l-> ∃t,ℓ=2*t/\Operand.tmp t∈l
 |[],ℓ,h=>by simp[je]at h
 |x::l,ℓ,h=>by
  cases x with
  |tmp t=>
   simp only[je,q5j]at h;rcases h with h|h
   .exact⟨t,h,by simp⟩
   .obtain⟨t',h1,h2⟩:=Dq h;exact⟨t',h1,by simp[h2]⟩
  |_=>
   simp only[je]at h;obtain⟨t',h1,h2⟩:=Dq h;exact⟨t',h1,by simp[h2]⟩
theorem Ct{all:List Oper}{o:Oper}{ℓ:Nat}(h:ℓ∈gslK all o.guard): ∃t,ℓ=2*t/\t∈slB all o:=by
 unfold gslK at h;split at h
 .simp at h
 .rename_i j w hg
  split at h
  .rename_i t ht
   simp at h;refine⟨t,h,?_⟩;unfold slB;rw[hg];simp only[q5i];refine .inr ?_
   cases ha:all[j]? with
   |none=>rw[ha]at ht;cases ht
   |some o'=>
    rw[ha]at ht;have:qx all j=o':=by simp[qx,q53,ha]
    rw[this];have ht:o'.dst=some t:=ht;rw[ht];simp
  .simp at h
theorem Dd{all:List Oper}{o:Oper}{ℓ:Nat}(h:ℓ∈je o.op.operands.toList): ∃t,ℓ=2*t/\t∈slB all o:=by
 obtain⟨t,h1,h2⟩:=Dq h;refine⟨t,h1,?_⟩;unfold slB;exact q5i.2 (.inl (List.mem_filterMap.2 ⟨_,h2,rfl⟩))
theorem GoodK.congr{P:Program}{E:Env}{ops:Array Oper}{i:Nat}{p:PI}{al:Nat->XV->Prop}{lo hi:Nat}{σ σ':FS}(h:GoodK P E ops i p al lo hi σ)(he: ∀ℓ∈p.rd,σ' ℓ=σ ℓ):GoodK P E ops i p al lo hi σ':=
 λτ hs hτ=>h τ hs λℓ hℓ=>by rw[<-he ℓ hℓ];exact hτ ℓ hℓ
theorem GoodK.hi{P:Program}{E:Env}{ops:Array Oper}{i:Nat}{p:PI}{al:Nat->XV->Prop}{lo hi hi':Nat}{σ:FS}(h:GoodK P E ops i p al lo hi σ)(hh:hi=hi'):GoodK P E ops i p al lo hi' σ:=hh▸h
structure SI (D : List Int) (P : Program) (E : Env) (ops : Array Oper) (i : Nat) (o : Oper) (e : Env16) (s : S) (e1 : Env16) (s1 : S) (z : List Key) (p : PI) (al : Nat -> XV -> Prop) : Prop where
 good : GoodK P E ops i p al s.nx.num s1.nx.num (qo D e s.m)
 upd : (qo D e s.m).upd p.W = qo D e1 s1.m
 rd : ∀ ℓ ∈ p.rd, (∃ t, ℓ = 2 * t /\ t ∈ slB ops.toList o) \/ ∃ k b, mget (rmK s.m z) k = some b /\ ℓ = 2 * k.num + 1 /\ 2 <= cls P o.op /\
  (cls P o.op = 2 -> jd ops.toList e o.guard = some true /\ rdK e o.op = some k /\
   ∀ (m' : qR) b' w, (∀ k b, mget m' k = some b -> b.ok) -> (rdO P e (rmK s.m z) o.op).res = w -> w ≠ .und -> (rdO P e m' o.op).res = w -> mget m' k = some b' -> al ℓ (.bl (b'.blk D)))
 wr : ∀ ℓ, look p.W ℓ ≠ none -> (∃ t, o.dst = some t /\ ℓ = 2 * t) \/ ∃ k : Key, ℓ = 2 * k.num + 1 /\ ((cls P o.op = 1 /\ k = s.nx /\ s1.nx.num = s.nx.num + 1) \/ (cls P o.op = 3 /\ (mget (rmK s.m z) k ≠ none \/ (s.nx.num <= k.num /\ k.num < s1.nx.num))))
 str : ∀ ℓ x, look p.W ℓ = some (some x) -> XStr ℓ x
section
variable {D:List Int} {P:Program} {rc:FuncId->List V->S->RO}
theorem mem1{α β:Type}{f:α->Nat}{a:α}{kin:List (Nat×β)}(h:kin.map (·.1)=[f a]): ∃b,kin=[(f a,b)]:=by
 match kin,h with
 |[(x,b)],h=>simp at h;subst h;exact⟨b,rfl⟩
theorem JW (hrc : RcOk D P rc) {E : Env} {ops : Array Oper} {i n : Nat} {o : Oper} {lo : Nat} {e e1 : Env16} {s s1 : S} {z : List Key} (ho : ops[i]? = some o) (hn : E.n = n) (hdk : zi n o = true) (he : EOK D E lo e s)
  (h : Dg rc P ops.toList z o e s e1 s1) : EOK D E lo e1 s1 /\ s.nx.num <= s1.nx.num /\ ∃ p al, SI D P E ops i o e s e1 s1 z p al := by
 have hd : ∀ t, o.dst = some t -> t < E.n /\ t < 512 := λt ht => by
  unfold zi at hdk;rw [ht] at hdk;simp only [q4R] at hdk;rw [hn];exact ⟨by simpa using hdk.1, by simpa using hdk.2⟩
 rcases h with ⟨hg, rfl, rfl⟩ | ⟨hg, v, s2, hrun, rfl, rfl⟩
 .have hW : (qo D e s1.m).upd (Wof o.dst (qp D (.tu [])) []) = qo D (jb e o.dst (.tu [])) s1.m := by
   have := HA (D := D) (e := e) (m := s1.m) (d := s1.nx) (r := .val (.tu []) []) (dst := o.dst) (v := .tu []) (by simp) (λt ht => (hd t ht).2) (λ_ _ _ _ h => by cases h);exact this
  refine ⟨⟨Dc (λt ht => (hd t ht).2) he.slots (λx hx => by simp at hx), he.sok, he.le, he.ks, he.old⟩, q5H _, _, noAl, KC ho hg (λt ht => (hd t ht).1), hW, λℓ hℓ => .inl (Ct hℓ), λℓ hℓ => ?_, λℓ x hx => J8 (D := D) (by simp) (λk b h => by cases h) hx⟩;rcases Ap hℓ with h | ⟨k, _, h⟩
  .exact .inl h
  .exact absurd rfl h
 .-- the memory that is seen
  have hz : EOK D E lo e ⟨rmK s.m z, s.nx, s.dn, s.sc⟩ := by
   refine ⟨he.slots, ⟨λk b hb => ?_, λk hk => ?_, he.sok.agr⟩, he.le, he.ks, λk hk => ?_⟩
   .rw [wQ] at hb
    split at hb
    .cases hb
    .exact he.sok.ok k b hb
   .rw [wQ] at hk
    split at hk
    .exact absurd rfl hk
    .exact he.sok.lt k hk
   .rw [wQ] at hk
    split at hk
    .exact absurd rfl hk
    .exact he.old k hk
  have hseen : ∀ k b, mget (rmK s.m z) k = some b -> mget s.m k = some b := λk b hb => by
   rw [wQ] at hb;split at hb
   .cases hb
   .exact hb
  have hpres : ∀ k, k ∈ z -> mget s.m k ≠ none -> k.num < s.nx.num := λk _ hk => he.sok.lt k hk
  -- the end
  have hend : ∀ (p : PI), (qo D e (rmK s.m z)).upd p.W = qo D (jb e o.dst v) s2.m -> FP ops.toList o p ⟨rmK s.m z, s.nx, s.dn, s.sc⟩ s2 -> (qo D e s.m).upd p.W = qo D (jb e o.dst v) (reK s.m s2.m z) := by
   intro p hp hf;funext ℓ;have h1 := congrFun hp ℓ;rcases q5P ℓ with h2 | h2
   .obtain ⟨t, rfl⟩ : ∃ t, ℓ = 2 * t := ⟨ℓ / 2, by omega⟩
    rw [qA] at h1 ⊢;rw [<- h1];unfold FS.upd;split
    .rfl
    .rw [qA, qA]
   .obtain ⟨q, rfl⟩ : ∃ q, ℓ = 2 * q + 1 := ⟨ℓ / 2, by omega⟩
    rw [qf] at h1 ⊢;by_cases hq : ∃ k : Key, k.num = q
    .obtain ⟨k, rfl⟩ := hq
     rw [vq] at h1 ⊢;rw [B0];by_cases hk : k ∈ z /\ mget s.m k ≠ none
     .rw [if_pos hk]
      have hnone : look p.W (2 * k.num + 1) = none := by
       cases hl : look p.W (2 * k.num + 1) with
       | none => rfl
       | some x =>
        rcases hf.wr _ (by rw [hl]; simp) with ⟨t, _, h3⟩ | ⟨k', h3, h4⟩
        .omega
        .have e3 : k' = k := Key.num_inj (by omega)
         subst e3;rcases h4 with h4 | ⟨h4, _⟩
         .simp only [wQ, hk.1, if_true] at h4; exact absurd rfl h4
         .have := hpres k' hk.1 hk.2; simp only at h4; omega
      simp only [FS.upd, hnone];rw [qf, vq]
     .rw [if_neg hk, <- h1]
      unfold FS.upd;split
      .rfl
      .rw [qf, qf, vq, vq, wQ]
       split
       .rename_i hkz
        have : mget s.m k = none := by
         cases hm : mget s.m k with
         | none => rfl
         | some b => exact absurd ⟨hkz, by rw [hm]; simp⟩ hk
        rw [this]
       .rfl
    .have hno : ∀ m : qR, mblk m q = none := λm => by unfold mblk; rw [dif_neg hq]
     rw [hno] at h1 ⊢;rw [<- h1];unfold FS.upd;split
     .rfl
     .rw [qf, qf, hno, hno]
  have heok : EOK D E lo (jb e o.dst v) s2 -> s.nx.num <= s2.nx.num -> EOK D E lo (jb e o.dst v) ⟨reK s.m s2.m z, s2.nx, s2.dn, s2.sc⟩ := by
   intro h2 hle;refine ⟨h2.slots, ⟨λk b hb => ?_, λk hk => ?_, h2.sok.agr⟩, h2.le, h2.ks, λk hk => ?_⟩
   .simp only [B0] at hb
    split at hb
    .exact he.sok.ok k b hb
    .exact h2.sok.ok k b hb
   .simp only [B0] at hk
    split at hk
    .have := he.sok.lt k hk; simp only; omega
    .exact h2.sok.lt k hk
   .simp only [B0] at hk
    split at hk
    .exact he.old k hk
    .exact h2.old k hk
  have hrdc : ∀ (p : PI), FP ops.toList o p ⟨rmK s.m z, s.nx, s.dn, s.sc⟩ s2 -> ∀ ℓ ∈ p.rd, qo D e s.m ℓ = qo D e (rmK s.m z) ℓ := by
   intro p hf ℓ hℓ;rcases hf.rd ℓ hℓ with ⟨t, rfl, _⟩ | ⟨k, b, hb, rfl⟩
   .rw [qA, qA]
   .rw [qf, qf, vq, vq, hb, hseen k b hb]
  rcases q5L (cls P o.op) 3 with hc | hc
  .rw [KZ hc] at hrun
   have hkk : jk D P o.op o.type o.op.operands.toList (o.op.operands.toList.map (qb e)) (rmK s.m z) s.nx (kop P e (rmK s.m z) s.nx o.op) := MM o.op;obtain ⟨q1, q2, q3, q4, q5, q6, q7, q8⟩ := JQ (s := ⟨rmK s.m z, s.nx, s.dn, s.sc⟩) ho hn hdk hg hz hkk hrun;have h3 := heok q3 q4;by_cases hc2 : cls P o.op = 2
   .-- a load
    have hkl : kop P e (rmK s.m z) s.nx o.op = rdO P e (rmK s.m z) o.op := kop2 hc2;have hres : (rdO P e (rmK s.m z) o.op).res ≠ .und := by rw [<- hkl, <- q6]; exact q7
    obtain ⟨k, b, hpk, hmk, hsh⟩ := EE hres;have hkv : kop P e (rmK s.m z) s.nx o.op = .val v [(k, b)] := by rw [hkl, hsh, q6, hkl]
    have hval : ap ⟨rmK s.m z, s.nx, s.dn, s.sc⟩ (kop P e (rmK s.m z) s.nx o.op) = .ok v ⟨rmK s.m z, s.nx, s.dn, s.sc⟩ := by rw [hkv]; rfl
    rw [hval] at hrun;have hs2 : s2 = ⟨rmK s.m z, s.nx, s.dn, s.sc⟩ := by injection hrun with h1 h2; exact h2.symm
    rw [hkv] at q2 q5;let al : Nat -> XV -> Prop := λℓ X => ∃ (m' : qR) (b' : KB), (∀ k b, mget m' k = some b -> b.ok) /\ rdO P e m' o.op = .val v [(k, b')] /\ ℓ = 2 * k.num + 1 /\ X = .bl (b'.blk D)
    have hopk : ∀ (m' : qR) (b' : KB), (∀ k b, mget m' k = some b -> b.ok) -> rdO P e m' o.op = .val v [(k, b')] ->
      OpK P o.op o.type (List.zip o.op.operands.toList (o.op.operands.toList.map λx => qp D (qb e x))) [(k.num, b'.blk D)] (qp D v) [] s.nx.num := by
     intro m' b' hm' hl;have hk2 : jk D P o.op o.type o.op.operands.toList (o.op.operands.toList.map (qb e)) m' s.nx (kop P e m' s.nx o.op) := MM o.op;have e2 : kop P e m' s.nx o.op = .val v [(k, b')] := by rw [<- hl]; exact kop2 hc2
     rw [e2] at hk2;obtain ⟨_, _, k3, _, _, _⟩ := hk2 (by simp) (λy hy => by obtain ⟨w, _, rfl⟩ := List.mem_map.1 hy; exact Ia hz.slots w) hm';rw [show (o.op.operands.toList.map λx => qp D (qb e x)) = (o.op.operands.toList.map (qb e)).map (qp D) by rw [List.map_map]; rfl];exact k3
    have hbase : rdO P e (rmK s.m z) o.op = .val v [(k, b)] := by rw [<- hkl]; exact hkv
    have hfr := H8 hz.sok;obtain ⟨k1, _, _, _, _, _⟩ := hkk (by rw [hkv]; simp) (λy hy => by obtain ⟨w, _, rfl⟩ := List.mem_map.1 hy; exact Ia hz.slots w) hz.sok.ok
    have hgood := Mx (D := D) (E := E) (al := al) (hi := s2.nx.num) (d := s.nx) (r := .val v [(k, b)]) ho hg (λt ht => (hd t ht).1) (λℓ X ⟨_, _, _, _, h, _⟩ => by omega) (λy hy => k1 _ (List.mem_map.2 ⟨y, hy, rfl⟩)) (m := rmK s.m z) (λp hp => by simp [KR.ks] at hp; subst hp; exact hmk) trivial hfr
     (λkin h1 h2 => by
      obtain ⟨B, rfl⟩ := mem1 (f := Key.num) (a := k) (by simpa [KR.ks] using h1);rcases h2 (k.num, B) (by simp) with h3 | ⟨m', b', h3, h4, _, h5⟩
      .rw [jV hmk] at h3
       simp only [q68, XV.bl.injEq] at h3;subst h3;exact hopk _ b hz.sok.ok hbase
      .simp only [XV.bl.injEq] at h5
       subst h5
       exact hopk m' b' h3 h4)
     (λhq => by rcases hq with ⟨_, _, _, h⟩ | ⟨_, _, _, _, h⟩ <;> cases h) (λk hk => q5K (he.ks k hk) he.le)
    refine ⟨h3, by rw [hs2]; exact q5H _, _, al, hgood.congr (hrdc _ q5), hend _ q2 q5, λℓ hℓ => ?_, λℓ hℓ => ?_, q5.str⟩
    .rcases q5.rd ℓ hℓ with ⟨t', rfl, h4⟩ | ⟨k', b', hb', rfl⟩
     .rcases h4 with h4 | h4
      .exact .inl (Ct h4)
      .exact .inl (Dd h4)
     .have hk' : k' = k := by
       simp only [q5i, KR.ks, q5h, List.map_nil, q5p] at hℓ;rcases hℓ with (h4 | h4) | h4
       .obtain ⟨t', ht⟩ := Fa h4; omega
       .obtain ⟨t', ht⟩ := jU h4; omega
       .exact Key.num_inj (by omega)
      subst hk';refine .inr ⟨k', b', hb', rfl, by omega, λ_ => ⟨hg, hpk, λm' b2 w hm' hw hwn hl hmb => ?_⟩⟩;have hwv : w = v := by rw [<- hw, hbase]; rfl
      subst hwv;obtain ⟨k3, b3, g1, g2, g3⟩ := EE (P := P) (e := e) (m := m') (op := o.op) (by rw [hl]; exact hwn);rw [hpk] at g1; cases g1
      rw [hmb] at g2; cases g2
      exact ⟨m', b2, hm', by rw [g3, hl], rfl, rfl⟩
    .rcases Ap hℓ with h4 | ⟨q, _, h4⟩
     .exact .inl h4
     .exact absurd rfl h4
   .by_cases hc1 : cls P o.op = 1
    .rcases kop1 (P := P) (e := e) (m := rmK s.m z) (d := s.nx) hc1 with hb | ⟨v', b, hb⟩
     .rw [hb] at hrun; cases hrun
     .obtain ⟨_, _, _, _, _, a6, _⟩ := X3 (D := D) hrun
      have hnx := a6 (.inl ⟨v', [], b, hb⟩);rw [hb] at q1 q2 q5;refine ⟨h3, q4, _, noAl, q1.congr (hrdc _ q5), hend _ q2 q5, λℓ hℓ => ?_, λℓ hℓ => ?_, q5.str⟩
      .simp only [q5i, KR.ks, List.map_nil, q5r, or_false] at hℓ
       rcases hℓ with h4 | h4
       .exact .inl (Ct h4)
       .exact .inl (Dd h4)
      .rcases Ap hℓ with h4 | ⟨q, rfl, h4⟩
       .exact .inl h4
       .rcases MR h4 with ⟨_, _, _, _, h5, _⟩ | ⟨rfl, _⟩
        .rcases h5 with h5 | h5 <;> cases h5
        .exact .inr ⟨s.nx, rfl, .inl ⟨hc1, rfl, hnx⟩⟩
    .have hc0 : cls P o.op = 0 := by omega
     rcases kop0 (P := P) (e := e) (m := rmK s.m z) (d := s.nx) hc0 with hb | ⟨v', hb⟩
     .rw [hb] at hrun; cases hrun
     .rw [hb] at q1 q2 q5
      refine ⟨h3, q4, _, noAl, q1.congr (hrdc _ q5), hend _ q2 q5, λℓ hℓ => ?_, λℓ hℓ => ?_, q5.str⟩
      .simp only [q5i, KR.ks, List.map_nil, q5r, or_false] at hℓ
       rcases hℓ with h4 | h4
       .exact .inl (Ct h4)
       .exact .inl (Dd h4)
      .rcases Ap hℓ with h4 | ⟨q, rfl, h4⟩
       .exact .inl h4
       .exact absurd rfl h4
  .have hc3 : cls P o.op = 3 := by have := RE (P := P) o.op; omega
   obtain ⟨p, q1, q2, q3, q4, q5⟩ := Nr hrc (s := ⟨rmK s.m z, s.nx, s.dn, s.sc⟩) ho hn hdk hg hz hrun;have h3 := heok q3 q4;refine ⟨h3, q4, p, noAl, q1.congr (hrdc p q5), hend p q2 q5, λℓ hℓ => ?_, λℓ hℓ => ?_, q5.str⟩
   .rcases q5.rd ℓ hℓ with ⟨t', rfl, h4⟩ | ⟨k', b', hb', rfl⟩
    .rcases h4 with h4 | h4
     .exact .inl (Ct h4)
     .exact .inl (Dd h4)
    .exact .inr ⟨k', b', hb', rfl, by omega, λh => by omega⟩
   .rcases q5.wr ℓ hℓ with h4 | ⟨k, rfl, h4⟩
    .exact .inl h4
    .exact .inr ⟨k, rfl, .inr ⟨hc3, h4⟩⟩
theorem EC{ops:Array Oper}{i:Nat}(h:i<ops.size):ops[i]?=some (qx ops.toList i):=by
 unfold qx;rw[q53];have:ops.toList[i]?=ops[i]?:=by simp
 rw[this,Array.getElem?_eq_getElem h];rfl
theorem ED {M : List Nat} {u i : Nat} (hne : u ≠ i) : ordB M u i = true ↔ Ord M u i := by
  unfold ordB Ord;rcases Nat.lt_trichotomy u i with h | h | h
  · have hb : Nat.blt u i = true := by simpa using h
    rw [hb]; simp only [cond_true]
    exact ⟨λh2 => .inl ⟨h, h2⟩, λh2 => h2.elim (λh3 => h3.2) (λh3 => by omega)⟩
  · exact absurd h hne
  · have hb : Nat.blt u i = false := by
      cases hq : Nat.blt u i with
      | false => rfl
      | true => have : u < i := by simpa using hq
                omega
    rw [hb]; simp only [cond_false]
    exact ⟨λh2 => .inr ⟨h, h2⟩, λh2 => h2.elim (λh3 => by omega) (λh3 => h3.2)⟩
theorem Tg{M:List Nat}{u i:Nat}(hne:u≠i):ordB M u i=ordB M i u:=by
 have h1:=ED (M:=M) hne;have h2:=ED (M:=M) (Ne.symm hne);have h3:Ord M u i↔Ord M i u:=by unfold Ord;exact⟨λh=>h.symm,λh=>h.symm⟩
 cases ha:ordB M u i<;>cases hb:ordB M i u<;>simp_all
theorem FL{all:List Oper}{M:List Nat}(h:EK P all M=true){u i:Nat}(hu:u<i)(hi:i<all.length)(hno:ordB M u i=false):
  (∀t∈slB all (qx all i),∀t',(qx all u).dst=some t'->t'≠t)/\(∀t∈slB all (qx all u),∀t',(qx all i).dst=some t'->t'≠t)/\(∀t,(qx all u).dst=some t->(qx all i).dst≠some t)/\ ¬(cls P (qx all u).op=3/\cls P (qx all i).op=3):=by
 unfold EK at h;rw[q4R]at h;have h2:=List.all_eq_true.1 (List.all_eq_true.1 h.2 i (List.mem_range.2 hi)) u (List.mem_range.2 hu);unfold XI at h2;rw[hno]at h2;simp only[Bool.false_or,q4R]at h2;obtain⟨⟨⟨a,b⟩,c⟩,d⟩:=h2
 have hdst: ∀(o:Oper) t t',(!dstB o t)=true->o.dst=some t'->t'≠t:=by
  intro o t t' h1 h2 h3;subst h3;unfold dstB at h1;rw[h2]at h1;simp at h1
 refine⟨λt ht t' h3=>hdst _ t t' (List.all_eq_true.1 a t ht) h3,λt ht t' h3=>hdst _ t t' (List.all_eq_true.1 b t ht) h3,λt h3 h4=>?_,λh3=>?_⟩
 .rw[h3]at c
  exact hdst _ t t c h4 rfl
 .rw[h3.1,h3.2]at d;cases d
theorem q0h{all:List Oper}{M:List Nat}{u i:Nat}(hi:2<=cls P (qx all i).op)(hu:u<i)(hc:cls P (qx all u).op=1)(hno:ordB M u i=false):u∈unz P all M i:=by
 unfold unz
 have:Nat.ble (cls P (qx all i).op) 1=false:=by
  cases h:Nat.ble (cls P (qx all i).op) 1 with
  |false=>rfl
  |true=>have:=q5E h;omega
 rw[this,cond_false,q5m];refine⟨List.mem_range.2 hu,?_⟩;rw[hc,hno];rfl
theorem ZS (hrc : RcOk D P rc) (hm : P.follows .mixedOrders = true) {E : Env} {ops : Array Oper} {n lo U : Nat} (hn : E.n = n) (hds : ∀ o ∈ ops.toList, zi n o = true) {e e' : Env16} {s s' : S} {x : X} (h : runD rc P ops.toList e s = .ok x e' s') (he : EOK D E lo e s) (hU : s'.nx.num <= U) :
    x = .nrm /\ EOK D E lo e' s' /\ s.nx.num <= s'.nx.num /\ ∀ (id : Nat) a w H β, Rel D E lo U e s a w H β -> (Code.region id ops true).wp P (A8 D E lo U .nrm e' s') a w := by
  unfold runD at h;split at h
  rotate_left
  · cases h
  rename_i hex;have hd := Classical.choose_spec hex;generalize Classical.choose hex = pq at h hd;obtain ⟨e2, s2⟩ := pq;obtain ⟨es, ss, hd⟩ := hd;cases h;simp only at hd;have hU : s2.nx.num <= U := hU;show X.nrm = .nrm /\ EOK D E lo e2 s2 /\ s.nx.num <= s2.nx.num /\ ∀ (id : Nat) a w H β, Rel D E lo U e s a w H β -> (Code.region id ops true).wp P (A8 D E lo U .nrm e2 s2) a w;have hlen : ops.toList.length = ops.size := by simp
  generalize hM : masks 0 ops.toList [] = M at *;have hst := hd.stat;have hstep := hd.step;have hload := hd.load;rw [hM] at hst hload;rw [hM, hlen] at hstep;have h0 := hd.e0;have h0s := hd.s0;have hen := hd.en;have hsn := hd.sn;rw [hlen] at hen hsn;have hopm : ∀ i, i < ops.size -> zi n (qx ops.toList i) = true := λi hi => hds _ (q5n (l := ops.toList) (i := i) (by have := EC hi; simpa using this))
  -- the states on the way
  have hE : ∀ i, i <= ops.size -> EOK D E lo (es i) (ss i) := by
    intro i
    induction i with
    | zero => intro _; rw [h0, h0s]; exact he
    | succ i ih => intro hi; exact (JW hrc (EC (by omega)) hn (hopm i (by omega)) (ih (by omega)) (hstep i (by omega))).1
  have hnx1 : ∀ i, i < ops.size -> (ss i).nx.num <= (ss (i + 1)).nx.num := λi hi => (JW hrc (EC hi) hn (hopm i hi) (hE i (by omega)) (hstep i hi)).2.1
  have hmono : ∀ i j, i <= j -> j <= ops.size -> (ss i).nx.num <= (ss j).nx.num := by
    intro i j hij
    induction j with
    | zero => intro _; have : i = 0 := by omega
              subst this; exact q5H _
    | succ j ih =>
      intro hj;by_cases e : i = j + 1
      · subst e; exact q5H _
      · exact q5I (ih (by omega) (by omega)) (hnx1 j (by omega))
  have hSI : ∀ i, ∃ q : PI × (Nat -> XV -> Prop), (i < ops.size -> SI D P E ops i (qx ops.toList i) (es i) (ss i) (es (i + 1)) (ss (i + 1)) (zOf P ss ops.toList M i) q.1 q.2) /\ (¬ i < ops.size -> q.1 = ⟨[], [], [], [], none⟩) := by
    intro i;by_cases hi : i < ops.size
    · obtain ⟨_, _, p, al, h⟩ := JW hrc (EC hi) hn (hopm i hi) (hE i (by omega)) (hstep i hi)
      exact ⟨(p, al), λ_ => h, λh => absurd hi h⟩
    · exact ⟨(⟨[], [], [], [], none⟩, noAl), λh => absurd h hi, λ_ => rfl⟩
  let pl : Nat -> PI := λi => (Classical.choose (hSI i)).1
  let al : Nat -> Nat -> XV -> Prop := λi => (Classical.choose (hSI i)).2
  have hS : ∀ i, i < ops.size -> SI D P E ops i (qx ops.toList i) (es i) (ss i) (es (i + 1)) (ss (i + 1)) (zOf P ss ops.toList M i) (pl i) (al i) := λi hi => (Classical.choose_spec (hSI i)).1 hi
  have hS0 : ∀ i, ¬ i < ops.size -> pl i = ⟨[], [], [], [], none⟩ := λi hi => (Classical.choose_spec (hSI i)).2 hi
  have hev : ∀ i, i <= ops.size -> ev pl (List.range i) (qo D e s.m) = qo D (es i) (ss i).m := by
    intro i
    induction i with
    | zero => intro _; rw [h0, h0s]; rfl
    | succ i ih =>
      intro hi;rw [OO, ih (by omega)];exact (hS i (by omega)).upd
  -- two operations and one block
  have hsee : ∀ i k b, mget (rmK (ss i).m (zOf P ss ops.toList M i)) k = some b -> mget (ss i).m k = some b /\ k ∉ zOf P ss ops.toList M i := by
    intro i k b hb;rw [wQ] at hb;split at hb
    · cases hb
    · rename_i hk; exact ⟨hb, hk⟩
  have hlt : ∀ i k b, i <= ops.size -> mget (ss i).m k = some b -> k.num < (ss i).nx.num := λi k b hi hb => (hE i hi).sok.lt k (by rw [hb]; simp)
  have hz : ∀ u i, 2 <= cls P (qx ops.toList i).op -> u < i -> i < ops.size -> cls P (qx ops.toList u).op = 1 -> ordB M u i = false -> (ss u).nx ∈ zOf P ss ops.toList M i := λu i h0 h1 h2 h3 h4 => List.mem_map.2 ⟨u, q0h h0 h1 h3 h4, rfl⟩
  have hWrOrd : FW ops.size pl M := by
    intro i j hij hj ℓ hi1 hj1
    cases hno : ordB M i j with
    | true =>
      have := (ED (by omega)).1 hno;rcases this with h | h
      · exact h.2
      · omega
    | false =>
      exfalso;obtain ⟨_, _, p3, p4⟩ := FL hst hij (by omega) hno;rcases (hS i (by omega)).wr ℓ hi1 with ⟨t, h1, rfl⟩ | ⟨k, rfl, h1⟩
      · rcases (hS j hj).wr _ hj1 with ⟨t', h2, h3⟩ | ⟨k', h3, _⟩
        · have : t' = t := Nat.eq_of_mul_eq_mul_left (by decide : 0 < 2) h3.symm
          subst this;exact p3 t' h1 h2
        · omega
      · rcases (hS j hj).wr _ hj1 with ⟨t', _, h3⟩ | ⟨k', h3, h2⟩
        · omega
        · have e1 : k' = k := Key.num_inj (by omega)
          subst e1;have hm1 := hmono (i + 1) j (by omega) (by omega);rcases h1 with ⟨c1, rfl, hnx⟩ | ⟨c1, h1⟩
          · rcases h2 with ⟨c2, h2, _⟩ | ⟨c2, h2⟩
            · rw [h2] at hnx; rw [hnx] at hm1; omega
            · rcases h2 with h2 | ⟨h2, _⟩
              · cases hb : mget (rmK (ss j).m (zOf P ss ops.toList M j)) (ss i).nx with
                | none => exact h2 hb
                | some b => exact (hsee j _ b hb).2 (hz i j (by omega) hij hj c1 hno)
              · rw [hnx] at hm1; omega
          · rcases h2 with ⟨c2, rfl, _⟩ | ⟨c2, h2⟩
            · rcases h1 with h1 | ⟨_, h1⟩
              · cases hb : mget (rmK (ss i).m (zOf P ss ops.toList M i)) (ss j).nx with
                | none => exact h1 hb
                | some b =>
                  have := hlt i _ b (by omega) (hsee i _ b hb).1;have := hmono i j (by omega) (by omega);omega
              · omega
            · exact p4 ⟨c1, c2⟩
  have hRd : RdOk ops.size pl al M (qo D e s.m) := by
    intro i hi ℓ hℓ u hu hui hw hord
    have hno : ordB M u i = false := by
      cases hq : ordB M u i with
      | false => rfl
      | true => exact absurd ((ED hui).1 hq) hord
    rw [hev u (by omega), hev (u + 1) (by omega), hev i (by omega)]
    have hpair : (∀ t ∈ slB ops.toList (qx ops.toList i), ∀ t', (qx ops.toList u).dst = some t' -> t' ≠ t) /\ ¬ (cls P (qx ops.toList u).op = 3 /\ cls P (qx ops.toList i).op = 3) := by
      rcases Nat.lt_trichotomy u i with h | h | h
      · obtain ⟨p1, _, _, p4⟩ := FL hst h (by omega) hno
        exact ⟨p1, p4⟩
      · exact absurd h hui
      · obtain ⟨_, p2, _, p4⟩ := FL hst h (by omega) (by rw [Tg (by omega)]; exact hno)
        exact ⟨p2, λh => p4 ⟨h.2, h.1⟩⟩
    rcases (hS i hi).rd ℓ hℓ with ⟨t, rfl, ht⟩ | ⟨k, b, hb, rfl, hc, hal⟩
    · rcases (hS u hu).wr _ hw with ⟨t', h2, h3⟩ | ⟨k', h3, _⟩
      · exact absurd (Nat.eq_of_mul_eq_mul_left (by decide : 0 < 2) h3.symm : t' = t) (hpair.1 t ht t' h2)
      · omega
    · obtain ⟨hb1, hb2⟩ := hsee i k b hb
      have hkl := hlt i k b (by omega) hb1;rcases (hS u hu).wr _ hw with ⟨t', _, h3⟩ | ⟨k', h3, h2⟩
      · omega
      · have e1 : k' = k := Key.num_inj (by omega)
        subst e1;rcases h2 with ⟨c2, rfl, _⟩ | ⟨c2, h2⟩
        · exfalso
          rcases Nat.lt_trichotomy u i with h | h | h
          · exact hb2 (hz u i hc h hi c2 hno)
          · exact hui h
          · have := hmono i u (by omega) (by omega); omega
        · have hci : cls P (qx ops.toList i).op = 2 := by
            have := RE (P := P) (qx ops.toList i).op;have : cls P (qx ops.toList i).op ≠ 3 := λh => hpair.2 ⟨c2, h⟩
            omega
          obtain ⟨hg, hpk, hall⟩ := hal hci
          have hmem : (i, u) ∈ ldP P ops.toList M := by
            unfold ldP;refine List.mem_flatMap.2 ⟨i, List.mem_range.2 (by omega), ?_⟩;rw [hci];show (i, u) ∈ List.map _ _;refine List.mem_map.2 ⟨u, q5m.2 ⟨List.mem_range.2 (by omega), ?_⟩, rfl⟩;rw [c2, hno]; rfl
          obtain ⟨w, hwn, w1, w2, w3⟩ := hload i u hmem hg
          have fin : ∀ q, q <= ops.size -> (rdO P (es i) (ss q).m (qx ops.toList i).op).res = w -> Same (al i) (2 * k'.num + 1) (qo D (es q) (ss q).m (2 * k'.num + 1)) (qo D (es i) (ss i).m (2 * k'.num + 1)) := by
            intro q hq hl;obtain ⟨k3, b3, g1, g2, g3⟩ := EE (P := P) (e := es i) (m := (ss q).m) (op := (qx ops.toList i).op) (by rw [hl]; exact hwn);rw [hpk] at g1; cases g1
            exact .inr ⟨_, hall (ss q).m b3 w (hE q hq).sok.ok w1 hwn hl g2, jV g2⟩
          exact ⟨fin u (by omega) w2, fin (u + 1) (by omega) w3⟩
  have hokM : okM ops.toList M = true := by
    unfold EK at hst;rw [q4R] at hst; exact hst.1
  have hend := hE ops.size (q5H _);rw [hen, hsn] at hend;have hle := hmono 0 ops.size (by omega) (q5H _);rw [h0s, hsn] at hle;refine ⟨rfl, hend, hle, λid a w H β hr => ?_⟩;have hmin : ∀ i, i < ops.size -> min i ops.size = i := λi hi => by omega
  refine W3 (al := al) (lo := λi => (ss (min i ops.size)).nx.num) (hi := λi => (ss (min (i + 1) ops.size)).nx.num) hm hokM hWrOrd hRd (NE e s.m) ?_ ?_ ?_ ?_ hr.rep ?_ ?_
  · intro j ℓ x hx
    by_cases hj : j < ops.size
    · exact (hS j hj).str ℓ x hx
    · rw [hS0 j hj] at hx; cases hx
  · intro i j hij hj
    show (ss (min (i + 1) ops.size)).nx.num <= (ss (min j ops.size)).nx.num;exact hmono _ _ (by omega) (by omega)
  · intro i
    show (ss (min i ops.size)).nx.num <= (ss (min (i + 1) ops.size)).nx.num;exact hmono _ _ (by omega) (by omega)
  · intro i hi
    show GoodK P E ops i (pl i) (al i) (ss (min i ops.size)).nx.num (ss (min (i + 1) ops.size)).nx.num _;rw [hmin i hi, show min (i + 1) ops.size = i + 1 by omega, hev i (by omega)];exact (hS i hi).good
  · intro i hi k h1 h2
    have h1 : (ss (min i ops.size)).nx.num <= k := h1;have h2 : k < (ss (min (i + 1) ops.size)).nx.num := h2;have q1 := hmono 0 (min i ops.size) (by omega) (by omega);have q2 := hmono (min (i + 1) ops.size) ops.size (by omega) (q5H _);rw [h0s] at q1;rw [hsn] at q2;exact hr.dom k (by omega) (by omega)
  · intro a' w' H' β' hrep hβ
    rw [hev ops.size (q5H _), hen, hsn] at hrep
    have hout : ∀ k, k < s.nx.num \/ s2.nx.num <= k -> β' k = β k := λk hk => hβ k λi hi => by
      show k < (ss (min i ops.size)).nx.num \/ (ss (min (i + 1) ops.size)).nx.num <= k;have q1 := hmono 0 (min i ops.size) (by omega) (by omega);have q2 := hmono (min (i + 1) ops.size) ops.size (by omega) (q5H _);rw [h0s] at q1;rw [hsn] at q2;rcases hk with hk | hk
      · exact .inl (by omega)
      · exact .inr (by omega)
    refine ⟨rfl, H', β', hrep, λk h1 h2 => ?_, λk hk => ?_⟩
    · rw [hout k (.inr h1)]; exact hr.dom k (by omega) h2
    · have : k < s.nx.num \/ s2.nx.num <= k := by
        rcases hk with hk | hk
        · exact .inl (q5K hk he.le)
        · exact .inr hk
      rw [hout k this];refine hr.bet k ?_;rcases hk with hk | hk
      · exact .inl hk
      · exact .inr (by omega)
end
end
noncomputable section
section
variable {D:List Int} {P:Program} {rc:FuncId->List V->S->RO}
theorem ND{r:R}{k:Env16->S->R}{x:X}{e':Env16}{s':S}(h:BW r k= .ok x e' s'):(∃e1 s1,r= .ok .nrm e1 s1/\k e1 s1= .ok x e' s')\/(r= .ok x e' s'/\x≠ .nrm):=by
 cases r with
 |no t=>cases h
 |need n=>cases h
 |ok y e1 s1=>
  cases y with
  |nrm=>exact .inl ⟨e1,s1,rfl,h⟩
  |ext i=>cases h;exact .inr ⟨rfl,by simp⟩
  |ret=>cases h;exact .inr ⟨rfl,by simp⟩
theorem Wl{r:R}{k:Env16->S->R}{x:X}{e':Env16}{s':S}(h:LL k r= .ok x e' s'):(∃e1 s1,r= .ok .nrm e1 s1/\k e1 s1= .ok x e' s')\/(r= .ok x e' s'/\x≠ .nrm):=ND h
theorem RC{id:Nat}{r:R}{x:X}{e':Env16}{s':S}(h:HY id r= .ok x e' s'):(r= .ok (.ext id) e' s'/\x= .nrm)\/(r= .ok x e' s'/\x≠ .ext id):=by
 cases r with
 |no t=>cases h
 |need n=>cases h
 |ok y e1 s1=>
  cases y with
  |nrm=>cases h;exact .inr ⟨rfl,by simp⟩
  |ret=>cases h;exact .inr ⟨rfl,by simp⟩
  |ext i=>
   have h': @Bool.rec (λ_=>R) (.ok (.ext i) e1 s1) (.ok .nrm e1 s1) (Nat.beq i id)= .ok x e' s':=h
   cases hb:Nat.beq i id with
   |true=>rw[hb]at h';cases h';rw[q5C hb];exact .inl ⟨rfl,rfl⟩
   |false=>rw[hb]at h';cases h';refine .inr ⟨rfl,λe=>?_⟩;cases e;simp at hb
theorem RQ(c:Code):jX rc P (.loop c)=⟨λe s=>BS (jX rc P c).st 1000000 e s,λ_=>none⟩:=rfl
theorem Ml(c:Code)(e:Env16)(s:S):den rc P (.loop c) e s=BS (den rc P c) 1000000 e s:=by unfold den;rw[RQ]
theorem Qk(c:Code):jX rc P (.scope c)=⟨λe s=>hopN (jX rc P c).fr 1000001 ((jX rc P c).st e s),λ_=>none⟩:=rfl
theorem Ko(c:Code)(e:Env16)(s:S):den rc P (.scope c) e s=hopN (jX rc P c).fr 1000001 (den rc P c e s):=by unfold den;rw[Qk]
def Q6(D:List Int)(P:Program)(rc:FuncId->List V->S->RO)(c:Code):Prop:=
 ∀(E:Env)(n lo U:Nat)(e:Env16)(s:S)(x:X)(e':Env16)(s':S),E.n=n->qV n c=true->den rc P c e s= .ok x e' s'->EOK D E lo e s->s'.nx.num<=U->
  EOK D E lo e' s'/\s.nx.num<=s'.nx.num/\ ∀a w H β,Rel D E lo U e s a w H β->c.wp P (A8 D E lo U x e' s') a w
theorem Kr{next:Act->World->Prop}{Q:Exit->Act->World->Prop}{x:X}{a:Act}{w:World}(hx:x≠ .nrm)(h:Q (BO x) a w):Exit.then next Q (BO x) a w:=by
 cases x with
 |nrm=>exact absurd rfl hx
 |ext i=>
  have e:BO (.ext i)=(bif Nat.blt i 1048576 then .exit i else .goto (i-1048576)):=rfl;rw[e]at h⊢;cases hb:Nat.blt i 1048576<;>(rw[hb]at h;exact h)
 |ret=>exact h
theorem Ef{i:Nat}(h:Nat.blt i 1048576=true):BO (.ext i)= .exit i:=by
 show(bif Nat.blt i 1048576 then Exit.exit i else .goto (i-1048576))=_;rw[h];rfl
theorem Ee{i:Nat}(h:Nat.blt i 1048576=false):BO (.ext i)= .goto (i-1048576):=by
 show(bif Nat.blt i 1048576 then Exit.exit i else .goto (i-1048576))=_;rw[h];rfl
def Hops(P:Program)(c:Code)(Q:Exit->Act->World->Prop):Nat->Code->Act->World->Prop
 |0,_,_,_=>False
 |n+1,d,a,w=>d.wp P (λe a' w'=>match e with| .goto l=>(match findLabel c l with|some rest=>Hops P c Q n rest a' w'|none=>Q (.goto l) a' w')|e=>Q e a' w') a w
theorem OX{c:Code}{Q:Exit->Act->World->Prop}{b:Frame}{k:List Item}{cs:List Frame}: ∀(n:Nat)(d:Code)(a:Act)(w:World),Hops P c Q n d a w->
  ∃e a' w',Q e a' w'/\Arrives P (lone (b.at a (.code d:: .inScope c::k)) cs w) b k cs e a' w'
 |0,_,_,_,h=>h.elim
 |n+1,d,a,w,h=>by
  obtain⟨e,a₁,w₁,hq,harr⟩:=h b (.inScope c::k) cs
  cases e with
  |normal=>exact⟨.normal,a₁,w₁,hq,Steps.trans harr (.one step_inScope)⟩
  |exit id=>exact⟨.exit id,a₁,w₁,hq,λk' hk=>harr k' (by simp[exitTo,hk])⟩
  |goto l=>
   have hq:(match findLabel c l with|some rest=>Hops P c Q n rest a₁ w₁|none=>Q (.goto l) a₁ w₁):=hq
   cases hf:findLabel c l with
   |none=>
    rw[hf]at hq;exact⟨.goto l,a₁,w₁,hq,λk' hk=>harr k' (by simp[gotoIn,hf,hk])⟩
   |some rest=>
    rw[hf]at hq;obtain⟨e₂,a₂,w₂,hq₂,harr₂⟩:=OX n rest a₁ w₁ hq;exact⟨e₂,a₂,w₂,hq₂,.of_steps (harr _ (by simp[gotoIn,hf])) harr₂⟩
  |ret=>exact⟨_,a₁,w₁,hq,harr⟩
  |panic ch=>exact⟨_,a₁,w₁,hq,harr⟩
  |outgrown=>exact⟨_,a₁,w₁,hq,harr⟩
theorem Lg{c:Code}{Q:Exit->Act->World->Prop}{n:Nat}{a:Act}{w:World}(h:Hops P c Q n c a w):(Code.scope c).wp P Q a w:=by
 intro b k cs;obtain⟨e,a',w',hq,harr⟩:=OX (b:=b) (k:=k) (cs:=cs) n c a w h;exact⟨e,a',w',hq,.of_steps (.one step_scope) harr⟩
def DenG(D:List Int)(P:Program)(Ck:Nat->Prop)(f:Env16->S->R)(c:Code):Prop:=
 ∀(E:Env)(n lo U:Nat)(e:Env16)(s:S)(x:X)(e':Env16)(s':S),E.n=n->Ck n->f e s= .ok x e' s'->EOK D E lo e s->s'.nx.num<=U->
  EOK D E lo e' s'/\s.nx.num<=s'.nx.num/\ ∀a w H β,Rel D E lo U e s a w H β->c.wp P (A8 D E lo U x e' s') a w
theorem Mk{K1 K2:Nat->Prop}{f g:Env16->S->R}{c d:Code}(hc:DenG D P K1 f c)(hd:DenG D P K2 g d):DenG D P (λn=>K1 n/\K2 n) (λe s=>BW (f e s) g) (.seq c d):=λE n lo U e s x e' s' hn hk h he hU=>by
 have h':BW (f e s) g= .ok x e' s':=h;rcases ND h' with⟨e1,s1,h1,h2⟩|⟨h1,hx⟩
 .--the second part has to be known first,for the bound
  have hmono:s1.nx.num<=s'.nx.num:=by
   have hE1:=(hc E n lo s1.nx.num e s .nrm e1 s1 hn hk.1 h1 he (q5H _)).1;exact(hd E n lo U e1 s1 x e' s' hn hk.2 h2 hE1 hU).2.1
  obtain⟨a1,a2,a3⟩:=hc E n lo U e s .nrm e1 s1 hn hk.1 h1 he (q5I hmono hU);obtain⟨b1,b2,b3⟩:=hd E n lo U e1 s1 x e' s' hn hk.2 h2 a1 hU;refine⟨b1,q5I a2 b2,λa w H β hr=>wp_seq (wp_mono (a3 a w H β hr) ?_)⟩
  rintro ex a w ⟨rfl,H',β',hr'⟩
  exact b3 a w H' β' hr'
 .obtain⟨a1,a2,a3⟩:=hc E n lo U e s x e' s' hn hk.1 h1 he hU
  refine⟨a1,a2,λa w H β hr=>wp_seq (wp_mono (a3 a w H β hr) ?_)⟩
  rintro ex a w ⟨rfl,H',β',hr'⟩
  exact Kr hx ⟨rfl,H',β',hr'⟩
def FrOk(D:List Int)(P:Program)(fr:Nat->Option (Env16->S->R))(c:Code):Prop:= ∀l,match fr l with
 |some f=> ∃rest,findLabel c l=some rest/\DenG D P (λn=>qV n c=true) f rest
 |none=>findLabel c l=none
theorem q12{a b:Code}(ha:FrOk D P (jX rc P a).fr a)(hb:FrOk D P (jX rc P b).fr b)(hd:Q6 D P rc b):FrOk D P (jX rc P (.seq a b)).fr (.seq a b):=λl=>by
  have ha:=ha l;have hb:=hb l;have e1:(jX rc P (.seq a b)).fr l=(match(jX rc P a).fr l with|some f=>some (λe s=>BW (f e s) (jX rc P b).st)|none=>(jX rc P b).fr l):=rfl;have e2:findLabel (.seq a b) l=(match findLabel a l with|some rest=>some (.seq rest b)|none=>findLabel b l):=rfl;have hk: ∀n,qV n (.seq a b)=true->qV n a=true/\qV n b=true:=λn h=>by simpa only[qV,q4R]using h
  rw[e1,e2]
  cases hfa:(jX rc P a).fr l with
  |some f=>
   rw[hfa]at ha;obtain⟨rest,h1,h2⟩:=ha;rw[h1];exact⟨.seq rest b,rfl,λE n lo U e s x e' s' hn hc=>Mk h2 (show DenG D P (λn=>qV n b=true) (jX rc P b).st b from hd) E n lo U e s x e' s' hn (hk n hc)⟩
  |none=>
   rw[hfa]at ha;have ha:findLabel a l=none:=ha;rw[ha]
   show match(jX rc P b).fr l with
    |some f=> ∃rest,findLabel b l=some rest/\DenG D P (λn=>qV n (.seq a b)=true) f rest
    |none=>findLabel b l=none
   cases hfb:(jX rc P b).fr l with
   |some f=>
    rw[hfb]at hb;obtain⟨rest,h1,h2⟩:=hb;exact⟨rest,h1,λE n lo U e s x e' s' hn hc=>h2 E n lo U e s x e' s' hn (hk n hc).2⟩
   |none=>rw[hfb]at hb;exact hb
theorem UN(l':Nat):FrOk D P (jX rc P (.label l')).fr (.label l'):=λl=>by
  have e1:(jX rc P (.label l')).fr l=bif Nat.beq l' l then some (λe s=> .ok .nrm e s)else none:=rfl
  rw[e1]
  cases hb:Nat.beq l' l with
  |true=>
   refine⟨.skip,?_,λE n lo U e s x e' s' hn hk h he hU=>?_⟩
   .rw[q5C hb];simp[findLabel]
   .cases h;exact⟨he,q5H _,λa w H β hr=>wp_skip ⟨rfl,H,β,hr⟩⟩
  |false=>
   show findLabel (.label l') l=none;have:l'≠l:=λe=>by subst e;simp at hb
   simp[findLabel,this]
theorem Sm{c:Code}{fr:Nat->Option (Env16->S->R)}(hfr:FrOk D P fr c){E:Env}{n lo:Nat}(hn:E.n=n)(hk:qV n c=true){x:X}{e':Env16}{s':S}: ∀(N:Nat)(d:Code)(f:Env16->S->R)(U:Nat)(e:Env16)(s:S),DenG D P (λn=>qV n c=true) f d->
  hopN fr N (f e s)= .ok x e' s'->EOK D E lo e s->s'.nx.num<=U->EOK D E lo e' s'/\s.nx.num<=s'.nx.num/\ ∀a w H β,Rel D E lo U e s a w H β->Hops P c (A8 D E lo U x e' s') N d a w
 |0,d,f,U,e,s,hd,h,he,hU=>by cases h
 |N+1,d,f,U,e,s,hd,h,he,hU=>by
  have plain: ∀{y:X},f e s= .ok y e' s'->y=x->(∀i,y= .ext i->Nat.blt i 1048576=false->findLabel c (i-1048576)=none)->EOK D E lo e' s'/\s.nx.num<=s'.nx.num/\ ∀a w H β,Rel D E lo U e s a w H β->Hops P c (A8 D E lo U x e' s') (N+1) d a w:=λ{y} hy hyx hng=>by
   subst hyx;obtain⟨a1,a2,a3⟩:=hd E n lo U e s y e' s' hn hk hy he hU;refine⟨a1,a2,λa w H β hr=>?_⟩;show d.wp P _ a w;refine wp_mono (a3 a w H β hr) ?_
   rintro ex a w ⟨rfl,H',β',hr'⟩
   have hp:A8 D E lo U y e' s' (BO y) a w:=⟨rfl,H',β',hr'⟩
   cases y with
   |nrm=>exact hp
   |ret=>exact hp
   |ext i=>
    cases hb:Nat.blt i 1048576 with
    |true=>rw[Ef hb]at hp⊢;exact hp
    |false=>
     rw[Ee hb]at hp⊢;show match findLabel c (i-1048576)with|some rest=>Hops P c _ N rest a w|none=>_
     rw[hng i rfl hb];exact hp
  cases hr:f e s with
  |no t=>rw[hr]at h;cases h
  |need t=>rw[hr]at h;cases h
  |ok y e1 s1=>
   rw[hr]at h
   cases y with
   |nrm=>cases h;exact plain hr rfl (by simp)
   |ret=>cases h;exact plain hr rfl (by simp)
   |ext i=>
    have h: @Bool.rec (λ_=>R) (.ok (.ext i) e1 s1) (match(generalizing:=false) fr (Nat.sub i 1048576)with|some f=>hopN fr N (f e1 s1)|none=> .ok (.ext i) e1 s1) (Nat.ble 1048576 i)= .ok x e' s':=h
    cases hb:Nat.ble 1048576 i with
    |false=>
     rw[hb]at h;cases h
     refine plain hr rfl λj hj hlt=>?_
     injection hj with hj
     subst hj;have h1: ¬1048576<=i:=λh2=>by rw[show Nat.ble 1048576 i=true from Nat.ble_eq_true_of_le h2]at hb;cases hb
     have h3:Nat.blt i 1048576=true:=by simp only[Nat.blt_eq];omega
     rw[h3]at hlt;cases hlt
    |true=>
     rw[hb]at h;have hge:=q5E hb
     have hlt:Nat.blt i 1048576=false:=by
      cases h3:Nat.blt i 1048576 with
      |false=>rfl
      |true=>simp only[Nat.blt_eq]at h3;omega
     have hf:=hfr (i-1048576);have h:(match(generalizing:=false) fr (i-1048576)with|some f=>hopN fr N (f e1 s1)|none=> .ok (.ext i) e1 s1)=R.ok x e' s':=h
     cases hg:fr (i-1048576)with
     |none=>
      rw[hg]at h hf;have h:R.ok (.ext i) e1 s1= .ok x e' s':=h;injection h with q1 q2 q3
      subst q1;subst q2;subst q3
      have hf:findLabel c (i-1048576)=none:=hf;exact plain hr rfl λj hj _=>(X.ext.inj hj)▸hf
     |some g=>
      rw[hg]at h hf;obtain⟨rest,h1,h2⟩:=hf;have hE1:=(hd E n lo s1.nx.num e s _ e1 s1 hn hk hr he (q5H _)).1;obtain⟨b1,b2,b3⟩:=Sm hfr hn hk N rest g U e1 s1 h2 h hE1 hU;obtain⟨a1,a2,a3⟩:=hd E n lo U e s _ e1 s1 hn hk hr he (q5I b2 hU);refine⟨b1,q5I a2 b2,λa w H β hrel=>?_⟩;show d.wp P _ a w;refine wp_mono (a3 a w H β hrel) ?_
      rintro ex a w ⟨rfl,H',β',hr'⟩
      rw[Ee hlt];show match findLabel c (i-1048576)with|some rest=>Hops P c _ N rest a w|none=>_
      rw[h1];exact b3 a w H' β' hr'
theorem zh(hrc:RcOk D P rc)(hm:P.follows .mixedOrders=true): ∀c:Code,Q6 D P rc c/\FrOk D P (jX rc P c).fr c
 | .skip=>⟨λE n lo U e s x e' s' hn hk h he hU=>(by
  cases h;exact⟨he,q5H _,λa w H β hr=>wp_skip ⟨rfl,H,β,hr⟩⟩),λl=>rfl⟩
 | .region id ops false=>⟨λE n lo U e s x e' s' hn hk h he hU=>(by
  have h':A6 rc P ops.toList ops.toList e s= .ok x e' s':=h;obtain⟨rfl,h2,h3,h4⟩:=L0 (U:=U) hrc hn (List.all_eq_true.1 hk) ops.toList 0 e s x e' s' rfl h' he hU;refine⟨h2,h3,λa w H β hr=>wp_region ?_⟩;rw[List.range_eq_range']
  exact h4 a w H β hr),λl=>rfl⟩
 | .region id ops true=>⟨λE n lo U e s x e' s' hn hk h he hU=>(by
  have h':runD rc P ops.toList e s= .ok x e' s':=h;obtain⟨rfl,h2,h3,h4⟩:=ZS (U:=U) hrc hm hn (List.all_eq_true.1 hk) h' he hU
  exact⟨h2,h3,λa w H β hr=>h4 id a w H β hr⟩),λl=>rfl⟩
 | .seq c d=>⟨λE n lo U e s x e' s' hn hk h he hU=>Mk (show DenG D P (λn=>qV n c=true) (den rc P c) c from(zh hrc hm c).1) (show DenG D P (λn=>qV n d=true) (den rc P d) d from(zh hrc hm d).1) E n lo U e s x e' s' hn (by simpa only[qV,q4R]using hk) h he hU,q12 (zh hrc hm c).2 (zh hrc hm d).2 (zh hrc hm d).1⟩
 | .cond c y z=>⟨λE n lo U e s x e' s' hn hk h he hU=>(by
  have h':Lr (qb e c) (den rc P y) (den rc P z) e s= .ok x e' s':=h;simp only[qV,q4R]at hk;unfold Lr at h';split at h'
  .rename_i t hc
   have hev: ∀a w H β,Rel D E lo U e s a w H β->a.eval c= .bool t:=λa w H β hr=>by
    have hs:=G2 hr.rep (x:=c) (by rw[hc];simp) (λt _=>rfl);rw[hc]at hs;exact hs.1
   cases t with
   |true=>
    obtain⟨a1,a2,a3⟩:=(zh hrc hm y).1 E n lo U e s x e' s' hn hk.1 h' he hU;exact⟨a1,a2,λa w H β hr=>wp_cond_true (hev a w H β hr) (a3 a w H β hr)⟩
   |false=>
    obtain⟨a1,a2,a3⟩:=(zh hrc hm z).1 E n lo U e s x e' s' hn hk.2 h' he hU;exact⟨a1,a2,λa w H β hr=>wp_cond_false (hev a w H β hr) (a3 a w H β hr)⟩
  .cases h'),λl=>rfl⟩
 | .block id c=>⟨λE n lo U e s x e' s' hn hk h he hU=>(by
  have h':HY id (den rc P c e s)= .ok x e' s':=h;have hk:(Nat.blt id 1048576&&qV n c)=true:=hk;rw[q4R]at hk;have hk':qV n c=true:=hk.2;rcases RC h' with⟨h1,rfl⟩|⟨h1,hx⟩
  .obtain⟨a1,a2,a3⟩:=(zh hrc hm c).1 E n lo U e s _ e' s' hn hk' h1 he hU
   refine⟨a1,a2,λa w H β hr=>wp_block (wp_mono (a3 a w H β hr) ?_)⟩
   rintro ex a w ⟨rfl,H',β',hr'⟩
   rw[Ef hk.1];simp only[Exit.inBlock,if_true];exact⟨rfl,H',β',hr'⟩
  .obtain⟨a1,a2,a3⟩:=(zh hrc hm c).1 E n lo U e s _ e' s' hn hk' h1 he hU
   refine⟨a1,a2,λa w H β hr=>wp_block (wp_mono (a3 a w H β hr) ?_)⟩
   rintro ex a w ⟨rfl,H',β',hr'⟩
   cases x with
   |nrm=>exact⟨rfl,H',β',hr'⟩
   |ret=>exact⟨rfl,H',β',hr'⟩
   |ext i=>
    have:i≠id:=λe=>hx (by rw[e])
    have hp:A8 D E lo U (.ext i) e' s' (BO (.ext i)) a w:=⟨rfl,H',β',hr'⟩
    cases hb:Nat.blt i 1048576 with
    |true=>
     rw[Ef hb]at hp⊢;simp only[Exit.inBlock,if_neg this];exact hp
    |false=>rw[Ee hb]at hp⊢;exact hp),λl=>rfl⟩
 | .loop c=>⟨λE n lo U e s x e' s' hn hk h he hU=>(by
  have h':BS (den rc P c) 1000000 e s= .ok x e' s':=by rw[Ml]at h;exact h
  have hk':qV n c=true:=hk
  have key: ∀N e s,BS (den rc P c) N e s= .ok x e' s'->EOK D E lo e s->EOK D E lo e' s'/\s.nx.num<=s'.nx.num/\ ∀a w H β,Rel D E lo U e s a w H β->Code.rounds P c (A8 D E lo U x e' s') N a w:=by
   intro N
   induction N with
   |zero=>intro e s h;cases h
   |succ N ih=>
    intro e s h he;have h2:LL (BS (den rc P c) N) (den rc P c e s)= .ok x e' s':=h;rcases Wl h2 with⟨e1,s1,h3,h4⟩|⟨h3,hx⟩
    .have hE1:=((zh hrc hm c).1 E n lo s1.nx.num e s .nrm e1 s1 hn hk' h3 he (q5H _)).1
     obtain⟨b1,b2,b3⟩:=ih e1 s1 h4 hE1;obtain⟨a1,a2,a3⟩:=(zh hrc hm c).1 E n lo U e s .nrm e1 s1 hn hk' h3 he (q5I b2 hU);refine⟨b1,q5I a2 b2,λa w H β hr=>?_⟩;rw[rounds_succ];refine wp_mono (a3 a w H β hr) ?_
     rintro ex a w ⟨rfl,H',β',hr'⟩
     exact b3 a w H' β' hr'
    .obtain⟨a1,a2,a3⟩:=(zh hrc hm c).1 E n lo U e s x e' s' hn hk' h3 he hU
     refine⟨a1,a2,λa w H β hr=>?_⟩;rw[rounds_succ];refine wp_mono (a3 a w H β hr) ?_
     rintro ex a w ⟨rfl,H',β',hr'⟩
     exact Kr hx ⟨rfl,H',β',hr'⟩
  obtain⟨a1,a2,a3⟩:=key 1000000 e s h' he
  exact⟨a1,a2,λa w H β hr=>wp_loop_rounds 1000000 (a3 a w H β hr)⟩),λl=>rfl⟩
 | .exit id=>⟨λE n lo U e s x e' s' hn hk h he hU=>(by
  cases h;exact⟨he,q5H _,λa w H β hr=>wp_exit ⟨(Ef hk).symm,H,β,hr⟩⟩),λl=>rfl⟩
 | .label l=>⟨λE n lo U e s x e' s' hn hk h he hU=>(by
  cases h;exact⟨he,q5H _,λa w H β hr=>wp_label ⟨rfl,H,β,hr⟩⟩),UN l⟩
 | .ret=>⟨λE n lo U e s x e' s' hn hk h he hU=>(by
  cases h;exact⟨he,q5H _,λa w H β hr=>wp_ret ⟨rfl,H,β,hr⟩⟩),λl=>rfl⟩
 | .rangeFunc .. =>⟨λE n lo U e s x e' s' hn hk h he hU=>(by cases h),λl=>rfl⟩
 | .goto l=>⟨λE n lo U e s x e' s' hn hk h he hU=>(by
  cases h
  have hb:Nat.blt (1048576+l) 1048576=false:=by
   cases h3:Nat.blt (1048576+l) 1048576 with
   |false=>rfl
   |true=>simp only[Nat.blt_eq]at h3;omega
  have e1:BO (.ext (1048576+l))= .goto l:=by rw[Ee hb,Nat.add_sub_cancel_left]
  exact⟨he,q5H _,λa w H β hr=>wp_goto ⟨e1.symm,H,β,hr⟩⟩),λl=>rfl⟩
 | .scope c=>⟨λE n lo U e s x e' s' hn hk h he hU=>(by
  have h':hopN (jX rc P c).fr 1000001 (den rc P c e s)= .ok x e' s':=by rw[Ko]at h;exact h
  have hk':qV n c=true:=hk;obtain⟨a1,a2,a3⟩:=Sm ((zh hrc hm c).2) hn hk' 1000001 c (den rc P c) U e s ((zh hrc hm c).1) h' he hU
  exact⟨a1,a2,λa w H β hr=>Lg (a3 a w H β hr)⟩),λl=>rfl⟩
 | .refuse _=>⟨λE n lo U e s x e' s' hn hk h he hU=>(by cases h),λl=>rfl⟩
theorem q0S(hrc:RcOk D P rc)(hm:P.follows .mixedOrders=true)(c:Code):Q6 D P rc c:=(zh hrc hm c).1
end
end
noncomputable section
section
variable {D:List Int} {P:Program}
theorem EI(l:List V)(t:Nat):slot (jF l) t=if t<16 then nthV l t else .und:=by
 rcases q5L t 256 with h|h
 .rw[Ce h]
  unfold Ab;rw[E5 h];show LK (D16.of (t/16)) (D16.of (t%16)) (jF l).lo=_;have h1:(D16.of (t/16)).n=t/16:=D16.n_of (by omega);have h2:(D16.of (t%16)).n=t%16:=D16.n_of (by omega);by_cases ht:t<16
  .rw[if_pos ht]
   have e1:D16.of (t/16)= .d0:=D16.n_inj (by rw[h1,Nat.div_eq_of_lt ht];rfl);rw[e1];rw[q5N ht]at h2⊢;generalize D16.of t=d at h2;subst h2;cases d<;>rfl
  .rw[if_neg ht]
   generalize D16.of (t%16)=d';generalize D16.of (t/16)=d at h1;have:d≠ .d0:=λe=>by subst e;have h1:0=t/16:=h1;omega
   cases d<;>first|exact absurd rfl this|exact N16.get_all _ d'
 .rw[Cd (by omega),if_neg (by omega)]
  unfold Ab
  cases Nat.blt (t-256) 256 with
  |false=>rfl
  |true=>
   show((N16.all (N16.all V.und)).get _).get _= .und;rw[N16.get_all,N16.get_all]
theorem Fj{t:TypeId}{k:Key}{b:KB}{v:V}{o off:Nat}{cl:List Atom}(hbl:b.blk D= .rigid cl\/ ∃es,b.blk D= .grow es cl)(hv:v.okC)
  (hcl: ∀s,o+s<=(v.cells D).length->(cl.drop off).take s=((v.cells D).drop o).take s/\off+s<=cl.length){r:KR}(h:ldV P t v o [(k,b)]=r)(hr:r≠ .bad):
  r.res.okC/\ ∀(β:Bm)(w:World)(H:Heap)(p c:Nat),(b.blk D).rep β w H k.num->β k.num=some (p,c)-> ∃u,(loadVar t ⟨p,off,none⟩).run P w= .ok u w/\(r.res.cmp D).sat β H u:=by
 obtain⟨g,s,l,z,hs,e,ho,h1,h2,h3,h4⟩:=MP (D:=D) h hr hv;subst e;obtain⟨c1,c2⟩:=hcl s h2;rw[h1]at c1;refine⟨ho,λβ w H p c hb hβ=>?_⟩
 have hld: ∃ks Lw,Bn P (λ_=>some (b.blk D)) t (.c (.one (.loc k.num off)))=some (.c (z.cmp D),ks,Lw):=by
  have hle:Nat.ble (off+s) cl.length=true:=by simpa using c2
  rcases hbl with e1|⟨es,e1⟩
  .unfold Bn
   rw[e1]
   cases g with
   |true=>simp only[hs,hle];rw[h3 rfl,<-c1];exact⟨_,_,rfl⟩
   |false=>
    obtain⟨k1,k2,k3⟩:=h4 rfl;rw[k2]at c1;have c3:=A3 c1 k3;simp only[hs,c3];rw[k1];exact⟨_,_,rfl⟩
  .unfold Bn
   rw[e1]
   cases g with
   |true=>simp only[hs,hle];rw[h3 rfl,<-c1];exact⟨_,_,rfl⟩
   |false=>
    obtain⟨k1,k2,k3⟩:=h4 rfl;rw[k2]at c1;have c3:=A3 c1 k3;simp only[hs,c3];rw[k1];exact⟨_,_,rfl⟩
 obtain⟨ks,Lw,hld⟩:=hld;exact HQ hld (λb' hb'=>by cases hb';exact hb) hβ
theorem KH{m:qR}{t:TypeId}{x:V}{r:KR}(h:v4 P m t x=r)(hr:r≠ .bad)(hm: ∀k b,mget m k=some b->b.ok):
  r.res.okC/\ ∃k off,qp D x= .c (.one (.loc k off))/\ ∀(β:Bm)(w:World)(H:Heap),(∀q b,mget m q=some b->(b.blk D).rep β w H q.num)-> ∀p c,β k=some (p,c)-> ∃u,(loadVar t ⟨p,off,none⟩).run P w= .ok u w/\(r.res.cmp D).sat β H u:=by
 unfold v4 at h;split at h
 .rename_i k o
  split at h
  .rename_i v hb
   obtain⟨a1,a2⟩:=Fj (D:=D) (cl:=v.cells D) (off:=o) (.inl rfl) (hm _ _ hb) (λs hs=>⟨rfl,hs⟩) h hr;exact⟨a1,k.num,o,rfl,λβ w H hM p c hβ=>a2 β w H p c (hM _ _ hb) hβ⟩
  .exact absurd h.symm hr
 .rename_i k i o w
  split at h
  .rename_i es n q hb
   cases hc:Nat.beq w es&&Nat.blt i n with
   |false=>rw[hc]at h;exact absurd h.symm hr
   |true=>
    rw[hc]at h;rw[q4R]at hc;have e1:=q5C hc.1;subst e1;have hi:i<n:=by simpa using hc.2
    have hok:=hm _ _ hb;have hel:=hok.2 _ (q5n (v6 .und q hi));obtain⟨a1,a2⟩:=Fj (D:=D) (cl:=flat D (Sq.toL .und q 0 n)) (off:=i*w+o) (.inl rfl) hel.1 (λs hs=>AX hok.2 (v6 .und q hi) (by rw[V.okC_size hel.1,hel.2]at hs;exact hs)) h hr;exact⟨a1,k.num,i*w+o,rfl,λβ w' H hM p c hβ=>a2 β w' H p c (hM _ _ hb) hβ⟩
  .rename_i es n q hb
   cases hc:Nat.beq w es&&Nat.blt i n with
   |false=>rw[hc]at h;exact absurd h.symm hr
   |true=>
    rw[hc]at h;rw[q4R]at hc;have e1:=q5C hc.1;subst e1;have hi:i<n:=by simpa using hc.2
    have hok:=hm _ _ hb;have hel:=hok.2 _ (q5n (v6 .und q hi));obtain⟨a1,a2⟩:=Fj (D:=D) (b:= .gro w n q) (cl:=flat D (Sq.toL .und q 0 n)) (off:=i*w+o) ((Jn w _).imp id λh=>⟨w,h⟩) hel.1 (λs hs=>AX hok.2 (v6 .und q hi) (by rw[V.okC_size hel.1,hel.2]at hs;exact hs)) h hr;exact⟨a1,k.num,i*w+o,rfl,λβ w' H hM p c hβ=>a2 β w' H p c (hM _ _ hb) hβ⟩
  .exact absurd h.symm hr
 .exact absurd h.symm hr
def By(m:qR):List Nat:=ids.filter λn=>(mblk m n).isSome
theorem zV{m:qR}{n:Nat}:n∈By m↔ ∃k b,Key.num k=n/\mget m k=some b:=by
 unfold By;rw[q5m];constructor
 .rintro⟨_,h⟩
  obtain⟨b,hb⟩:=Option.isSome_iff_exists.1 h;obtain⟨k,h1,h2⟩:=z7 hb;exact⟨k,b,h1,h2⟩
 .rintro⟨k,b,rfl,hb⟩
  exact⟨k.num_ids,by rw[vq,hb];rfl⟩
theorem IS{E:Env}{e:Env16}{s:S}{a:Act}{w:World}{H:Heap}{β:Bm}(hr:RepF E (qo D e s.m) a w H β)(hm: ∀k b,mget s.m k=some b->b.ok)(he: ∀t,(slot e t).ok){r:ResultVar}(h:isC (vm P e s.m r)=true):
  (vm P e s.m r).okC/\ ∃v,(rv a r).run P w= .ok v w/\((vm P e s.m r).cmp D).sat β H v:=by
 cases r with
 |tmp t=>
  have hc:(slot e t).okC:=Bv h (he t);obtain⟨u,hu,hs⟩:=hr.slot t (.c ((slot e t).cmp D)) (by rw[qA,V.okC_av hc];rfl);exact⟨hc,u,by simp[rv,Array.getD_eq_getD_getElem?,hu],hs⟩
 |cell x t=>
  have hne:v4 P s.m t (slot e x)≠ .bad:=λe1=>by
   have h2:isC (v4 P s.m t (slot e x)).res=true:=h;rw[e1]at h2;cases h2
  obtain⟨a1,k,off,a2,a3⟩:=KH (D:=D) rfl hne hm;refine⟨a1,?_⟩
  have hav:(slot e x).av D=some (qp D (slot e x)):=by
   rcases V.av_or (D:=D) (slot e x)with e1|⟨l,e1⟩|e1
   .rw[e1]at hne;exact absurd rfl hne
   .rw[e1];rfl
   .rw[qp,e1];rfl
  obtain⟨u,hu,hs⟩:=hr.slot x _ (by rw[qA,hav];rfl);rw[a2]at hs;obtain⟨b,c,hβ,rfl⟩:=hs;obtain⟨v,hv,hsv⟩:=a3 β w H (λq b hb=>hr.blk q.num _ (jV hb)) b c hβ;exact⟨v,by simp[rv,Array.getD_eq_getD_getElem?,hu,asAddr,hv],hsv⟩
theorem IR{E:Env}{e:Env16}{s:S}{a:Act}{w:World}{H:Heap}{β:Bm}(hr:RepF E (qo D e s.m) a w H β)(hm: ∀k b,mget s.m k=some b->b.ok)(he: ∀t,(slot e t).ok): ∀{l:List ResultVar},(l.map (vm P e s.m)).all isC=true->
  ∃vs,(l.mapM (rv a)).run P w= .ok vs w/\CmpSats β H ((l.map (vm P e s.m)).map (V.cmp D)) vs
 |[],_=>⟨[],by simp,trivial⟩
 |r::l,h=>by
  simp only[q5h,List.all_cons,q4R]at h;obtain⟨_,v,hv,hs⟩:=IS hr hm he h.1;obtain⟨vs,hvs,hss⟩:=IR hr hm he h.2;refine⟨v::vs,?_,hs,hss⟩;rw[List.mapM_cons];simp only[q6b,hv,q6a,hvs,q6c]
theorem PE{s s':S}{l:List V}{v:V}(h:retA s l= .ok v s'):l.all isC=true/\s'=s/\((∃x,l=[x]/\v=x)\/(l.length≠1/\v= .tu l)):=by
 unfold retA at h
 cases hc:l.all isC with
 |false=>rw[hc]at h;cases h
 |true=>
  rw[hc]at h;have h:retL s l= .ok v s':=h;unfold retL at h;split at h
  .cases h;exact⟨rfl,rfl,.inl ⟨_,rfl,rfl⟩⟩
  .rename_i hl
   cases h;refine⟨rfl,rfl,.inr ⟨λe=>?_,rfl⟩⟩;obtain⟨x,hx⟩:=List.length_eq_one_iff.1 e;exact hl x hx
theorem ZK{E:Env}{e:Env16}{s s':S}{a:Act}{w:World}{H:Heap}{β:Bm}(hr:RepF E (qo D e s.m) a w H β)(hm: ∀k b,mget s.m k=some b->b.ok)(he: ∀t,(slot e t).ok){fn:Func}{v:V}
  (h:retA s (fn.results.toList.map (vm P e s.m))= .ok v s'): ∃u,(results fn a.tmps).run P w= .ok u w/\(qp D v).sat β H u:=by
 obtain⟨h1,_,h3⟩:=PE h;obtain⟨vs,hvs,hsat⟩:=IR (P:=P) hr hm he h1
 have hrun:(results fn a.tmps).run P w= .ok (if h:vs.toArray.size=1 then vs.toArray[0]else .tuple vs.toArray) w:=by
  show(do let vs<-fn.results.mapM (rv a);pure (if h:vs.size=1 then vs[0]else Value.tuple vs):Sem Value).run P w=_;rw[Array.mapM_eq_mapM_toList];simp only[q6b,Sem.run_map,hvs,q6a,q6c]
 rw[hrun];refine⟨_,rfl,?_⟩
 have hlen: ∀{l:List Cmp}{vs:List Value},CmpSats β H l vs->l.length=vs.length:=by
  intro l
  induction l with
  |nil=>intro vs h;cases vs with|nil=>rfl|cons _ _=>exact h.elim
  |cons x l ih=>intro vs h;cases vs with|nil=>exact h.elim|cons y vs=>simp[ih h.2]
 have hl:=hlen hsat;rcases h3 with⟨x,e1,rfl⟩|⟨e1,rfl⟩
 .rw[e1]at hsat h1 hl
  have hxo:v.okC:=by
   have:isC v=true:=by simpa using h1
   have hmem:v∈fn.results.toList.map (vm P e s.m):=by rw[e1];simp
   obtain⟨r,_,rfl⟩:=List.mem_map.1 hmem;exact(IS hr hm he this).1
  simp only[q5h,List.map_nil,q5c,q5f]at hl
  match vs,hl,hsat with
  |[u],_,hsat=>
   rw[wI hxo];exact hsat.1
 .simp only[q5e]at hl e1
  rw[dif_neg (by simp;omega)];exact⟨_,rfl,hsat⟩
end
end
noncomputable section
section
variable {D:List Int} {P:Program}
theorem Hm{l:List V}{t:Nat}{x:V}(h:l[t]?=some x):nthV l t=x:=by
 simp[nthV,q53,h]
theorem KQ{l:List V}{t:Nat}(h:l[t]?=none):nthV l t= .und:=by
 simp[nthV,q53,h]
theorem ZJ{l:List ResultVar}{r:R}{v:V}{s':S}(h:retR P l r= .ok v s'): ∃x e s,r= .ok x e s/\(x= .nrm\/x= .ret)/\retA s (l.map (vm P e s.m))= .ok v s':=by
 cases r with
 |no t=>cases h
 |need n=>cases h
 |ok x e s=>
  cases x with
  |nrm=>exact⟨.nrm,e,s,rfl,.inl rfl,h⟩
  |ret=>exact⟨.ret,e,s,rfl,.inr rfl,h⟩
  |ext i=>cases h
theorem Ow{f:Nat}{r:RO}{v:V}{s:S}(h:addT f r= .ok v s):r= .ok v s:=by cases r<;>first|exact h|cases h
theorem q13{rc:FuncId->List V->S->RO}(hrc:RcOk D P rc)(hm:P.follows .mixedOrders=true){f:FuncId}{fn:Func}{c:Code}(hf:P.funcs[f]?=some fn)(hb:fn.body=some c){vs:List V}{s s':S}{v:V}
  (hk:qV fn.ntmps c=true)(hl16:vs.length<=16)(hln:vs.length<=fn.ntmps)(hname:BA fn=true)(h:retR P fn.results.toList (den rc P c (jF vs) s)= .ok v s')(hvs: ∀x∈vs,x.ok/\x≠ .und)(hs:SOK D s):CallOk D P f vs s v s':=by
 obtain⟨x,e1,s1,hden,hx,hret⟩:=ZJ h;obtain⟨hall,rfl,hv⟩:=PE hret
 have hslots: ∀t,(slot (jF vs) t).ok:=λt=>by
  rw[EI];split
  .cases hq:vs[t]? with
   |none=>rw[KQ hq];exact trivial
   |some y=>rw[Hm hq];exact(hvs y (q5n hq)).1
  .exact trivial
 have eok: ∀E:Env,E.Ks=By s.m->EOK D E s.nx.num (jF vs) s:=λE hE=>by
  refine⟨hslots,hs,q5H _,λk hk=>?_,λk hk=> .inl ?_⟩
  .rw[hE]at hk
   obtain⟨q,b,rfl,hb⟩:=zV.1 hk;exact hs.lt q (by rw[hb];simp)
  .rw[hE]
   cases hq:mget s.m k with
   |none=>exact absurd hq hk
   |some b=>exact zV.2 ⟨k,b,rfl,hq⟩
 have hge: ∀k∈By s.m,100000<=k:=λk hk=>by
  obtain⟨q,b,rfl,_⟩:=zV.1 hk;exact q.num_ge
 have main: ∀(w:World)(H:Heap)(β:Bm),EOK D ⟨w,H,β,By s.m,fn.ntmps,hge⟩ s.nx.num e1 s'/\s.nx.num<=s'.nx.num/\
   ∀a w' H' β',Rel D ⟨w,H,β,By s.m,fn.ntmps,hge⟩ s.nx.num s'.nx.num (jF vs) s a w' H' β'->c.wp P (A8 D ⟨w,H,β,By s.m,fn.ntmps,hge⟩ s.nx.num s'.nx.num x e1 s') a w':=
  λw H β=>q0S hrc hm c _ fn.ntmps s.nx.num s'.nx.num (jF vs) s x e1 s' rfl hk hden (eok _ rfl) (q5H _)
 obtain⟨he1,hle,_⟩:=main default (λ_=>none) (λ_=>none)
 have hvo:v.ok/\v≠ .und:=by
  have hok: ∀y∈fn.results.toList.map (vm P e1 s'.m),y.okC:=by
   intro y hy;have hc:=List.all_eq_true.1 hall y hy;obtain⟨r,_,rfl⟩:=List.mem_map.1 hy
   cases r with
   |tmp t=>exact Bv hc (he1.slots t)
   |cell a t=>
    have hne:v4 P s'.m t (slot e1 a)≠ .bad:=λe2=>by
     have h2:isC (v4 P s'.m t (slot e1 a)).res=true:=hc;rw[e2]at h2;cases h2
    exact(KH (D:=D) rfl hne he1.sok.ok).1
  rcases hv with⟨y,e2,rfl⟩|⟨_,rfl⟩
  .have:=hok v (by rw[e2];simp)
   exact⟨V.okC_ok this,zB this⟩
  .exact⟨hok,by simp⟩
 refine⟨by unfold callable;rw[hf];simp[hb];unfold BA at hname;simpa using hname,he1.sok,hle,hvo.1,hvo.2,?_,?_⟩
 .intro k hk
  rcases he1.old k hk with h1|h1
  .obtain⟨q,b,e2,hb⟩:=zV.1 h1
   have:=Key.num_inj e2;subst this;exact .inl (by rw[hb];simp)
  .exact .inr h1
 .intro us w H β hargs hM hon hdom
  have hrep:RepF ⟨w,H,β,By s.m,fn.ntmps,hge⟩ (qo D (jF vs) s.m) {tmps:=us.toArray++Array.replicate (fn.ntmps-us.toArray.size) undef,defers:=[]} w H β:=by
   have hvl:=AVs.length hargs;simp only[q5e]at hvl;refine⟨rfl,?_,?_,?_,?_,?_,λ_ _=>rfl,rfl,rfl,rfl,q5H _,λ_ _ _=>rfl,Heap.Le.refl _,λb hb=> .inl hb,hon⟩
   .simp;omega
   .intro t av ht
    rw[qA,EI]at ht
    cases hq:vs[t]? with
    |none=>rw[KQ hq]at ht;split at ht<;>cases ht
    |some y=>
     have hlt:t<vs.length:=by
      rcases q5L t vs.length with h|h
      .exact h
      .rw[q58 h]at hq;cases hq
     rw[if_pos (by omega),Hm hq]at ht;have hy:=hvs y (q5n hq);obtain⟨u,hu,hs⟩:=AVs.get t hargs (a:=qp D y) (by simp[hq]);refine⟨u,?_,?_⟩
     .rw[Array.getElem?_append_left (by simp;omega)]
      simpa using hu
     .rcases V.av_or (D:=D) y with e2|⟨l,e2⟩|e2
      .exact absurd e2 hy.2
      .subst e2;cases ht;exact hs
      .rw[qp,e2]at hs;rw[e2]at ht;cases ht;exact hs
   .intro k b hb'
    rw[qf]at hb'
    cases hl:mblk s.m k with
    |none=>rw[hl]at hb';cases hb'
    |some x=>
     rw[hl]at hb';simp at hb';subst hb'
     obtain⟨q,rfl,hq⟩:=z7 hl;exact hM.rep q x hq
   .intro k x b c hx' hβ
    rw[qf]at hx'
    cases hl:mblk s.m k with
    |none=>rw[hl]at hx';cases hx'
    |some y=>
     obtain⟨q,rfl,hq⟩:=z7 hl;obtain⟨h1,h2⟩:=hM.own q y hq b c hβ;exact⟨h1,h2,.inr ⟨_,zV.2 ⟨q,y,rfl,hq⟩,c,hβ⟩⟩
   .intro k k' x x' b c c' hx1 hx2 hne hβ
    rw[qf]at hx1 hx2
    cases hl:mblk s.m k with
    |none=>rw[hl]at hx1;cases hx1
    |some y=>
     cases hl':mblk s.m k' with
     |none=>rw[hl']at hx2;cases hx2
     |some y'=>
      obtain⟨q,rfl,hq⟩:=z7 hl;obtain⟨q',rfl,hq'⟩:=z7 hl';exact hM.inj q q' y y' hq hq' (λe=>hne (by rw[e])) b c c' hβ
  obtain⟨_,_,hwp⟩:=main w H β;refine calls_of_wp hf hb (wp_mono (hwp _ w H β ⟨hrep,hdom,λk _=>rfl⟩) ?_)
  rintro ex a w' ⟨rfl,H',β',hr⟩
  obtain⟨u,hu,hsat⟩:=ZK (P:=P) hr.rep he1.sok.ok he1.slots hret
  have hpost: ∃u' H' β',Ending.returned u= .returned u'/\Sim s.m s'.m s.nx.num s'.nx.num w H β w' H' β'/\(qp D v).sat β' H' u'/\MRep D s'.m w' H' β':=by
   refine⟨u,H',β',rfl,⟨hr.rep.os,hr.rep.tape,hr.rep.output,hr.rep.wsize,?_,hr.rep.hle,hr.rep.hnew,hr.rep.hon,λk hk=>hr.bet k hk,?_⟩,hsat,⟨?_,?_,?_⟩⟩
   .intro b hb hk
    refine hr.rep.frame b hb λk hk' c=>?_
    obtain⟨q,y,rfl,hq⟩:=zV.1 hk';exact hk q (by rw[hq];simp) c
   .intro k b hb bb c hβ
    obtain⟨_,_,h3⟩:=hr.rep.own k.num _ bb c (jV (D:=D) (e:=e1) hb) hβ;rcases h3 with h3|⟨k0,hk0,c0,h3⟩
    .exact .inl h3
    .obtain⟨q,y,rfl,hq⟩:=zV.1 hk0
     exact .inr ⟨q,by rw[hq];simp,c0,h3⟩
   .intro k b hb;exact hr.rep.blk k.num _ (jV hb)
   .intro k b hb bb c hβ
    obtain⟨h1,h2,_⟩:=hr.rep.own k.num _ bb c (jV (D:=D) (e:=e1) hb) hβ;exact⟨h1,h2⟩
   .intro k k' b b' hb hb' hne bb c c' hβ
    exact hr.rep.inj k.num k'.num _ _ bb c c' (jV (D:=D) (e:=e1) hb) (jV (D:=D) (e:=e1) hb') (λe=>hne (Key.num_inj e)) hβ
  rcases hx with rfl|rfl
  .exact⟨hr.rep.defers,u,hu,hpost⟩
  .exact⟨hr.rep.defers,u,hu,hpost⟩
def LQ(D:List Int)(P:Program)(pr:vE):Prop:= ∀f g,pr f=some g-> ∀vs s v s',g vs s= .ok v s'->(∀x∈vs,x.ok/\x≠ .und)->SOK D s->CallOk D P f vs s v s'
theorem M5{pr:vE}(hpr:LQ D P pr)(hm:P.follows .mixedOrders=true): ∀n,RcOk D P (E6 P pr n)
 |0=>λf vs s v s' h _ _=>by cases h
 |n+1=>λf vs s v s' h hvs hs=>by
  have h':(match pr f with
   |some g=>addT f (g vs s)
   |none=>(match P.funcs[f]? with
    |some fn=>(match fn.body with
     |some c=> @Bool.rec (λ_=>RO) (.no [17]) (addT f (retR P fn.results.toList (den (E6 P pr n) P c (jF vs) s))) (qV fn.ntmps c&&Nat.ble vs.length 16&&Nat.ble vs.length fn.ntmps&&BA fn)
     |none=> .no [15])
    |none=> .no [16]))=RO.ok v s':=h
  split at h'
  .rename_i g hg
   exact hpr f g hg vs s v s' (Ow h') hvs hs
  .split at h'
   .rename_i fn hf
    split at h'
    .rename_i c hb
     cases hc:qV fn.ntmps c&&Nat.ble vs.length 16&&Nat.ble vs.length fn.ntmps&&BA fn with
     |false=>rw[hc]at h';cases h'
     |true=>
      rw[hc]at h';simp only[q4R]at hc;exact q13 (M5 hpr hm n) hm hf hb hc.1.1.1 (q5E hc.1.1.2) (q5E hc.1.2) hc.2 (Ow h') hvs hs
    .cases h'
   .cases h'
end
end
end Go.Proofs.YtknbiadjbdemdaaGreat.Sx.Kx
