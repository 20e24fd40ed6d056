/-
Own laws and walks for the claim, part 6: KzB, KxJ, KxQ, KxW, KxK, KxL, KxM, KxV, KxN, KxO. No condition.
-/
import Derived.Test.YtjemkhmahjnfaaaGreatM5
import Derived.StringKeys
import Derived.Laws.BytesArg
namespace Go.Proofs.YtjemkhmahjnfaaaGreat.Sx.Kx
open Go
set_option linter.unusedVariables false
set_option linter.unusedSimpArgs false
noncomputable section
def ja(a b:Bool):Bool:= @Bool.rec (fun _=>Bool) false b a
def notB(a:Bool):Bool:= @Bool.rec (fun _=>Bool) true false a
def keqF(a b:IntKind):Bool:=Nat.beq (kNum a) (kNum b)
def nnK(k:IntKind)(c:Nat)(K:V→RO):RO:= @Bool.rec (fun _=>RO) (K (nnW k c)) (K (.nn k c)) (Nat.blt c (kLim k))
structure HB where
 f:IntKind→Nat→Nat→(V→RO)→RO
def binH(op:BinOp):HB:=
 match op with
 | .add=>⟨fun k a b K=>nnK k (Nat.add a b) K⟩
 | .sub=>⟨fun k a b K=> @Bool.rec (fun _=>RO) (qF (binI .sub k a b) K) (K (.nn k (Nat.sub a b))) (ja (Nat.ble b a) (Nat.blt a (kLim k)))⟩
 | .mul=>⟨fun k a b K=>nnK k (Nat.mul a b) K⟩
 | .quo=>⟨fun k a b K=> @Bool.rec (fun _=>RO) (nnK k (Nat.div a b) K) (.no [96]) (Nat.beq b 0)⟩
 | .rem=>⟨fun k a b K=> @Bool.rec (fun _=>RO) (K (.nn k (Nat.mod a b))) (.no [96]) (Nat.beq b 0)⟩
 | .eql=>⟨fun k a b K=>K (.bb (Nat.beq a b))⟩
 | .neq=>⟨fun k a b K=>K (.bb (notB (Nat.beq a b)))⟩
 | .lss=>⟨fun k a b K=>K (.bb (Nat.blt a b))⟩
 | .leq=>⟨fun k a b K=>K (.bb (Nat.ble a b))⟩
 | .gtr=>⟨fun k a b K=>K (.bb (Nat.blt b a))⟩
 | .geq=>⟨fun k a b K=>K (.bb (Nat.ble b a))⟩
 |op=>⟨fun k a b K=>qF (binI op k a b) K⟩
def kbB:Option KB→(V→RO)→RO:= @Option.rec KB (fun _=>(V→RO)→RO) (fun _=> .no [94]) (@KB.rec (fun _=>(V→RO)→RO) (fun v f=>f v) (fun _ _ _ _=> .no [94]) (fun _ _ _ _=> .no [94]) (fun _ _ _=> .no [94]) (fun _ _=> .no [94]))
def kbR:Option KB→(Nat→Nat→Sq V→RO)→(Nat→Nat→Sq V→RO)→RO:= @Option.rec KB (fun _=>(Nat→Nat→Sq V→RO)→(Nat→Nat→Sq V→RO)→RO) (fun _ _=> .no [95]) (@KB.rec (fun _=>(Nat→Nat→Sq V→RO)→(Nat→Nat→Sq V→RO)→RO) (fun _ _ _=> .no [95]) (fun a b c f _=>f a b c) (fun a b c _ g=>g a b c) (fun _ _ _ _=> .no [95]) (fun _ _ _=> .no [95]))
def wn(g:Bool)(s:Nat)(v:V)(o:Nat)(K:V→RO):RO:=
 @Bool.rec (fun _=>RO) (ld1 v o K) (ldA v s o K (qF (ldS true s v o []).res K)) g
def z3 (g : Bool) (s : Nat) (m : qM) (p : V) (K : V → RO) : RO :=
 qP p (fun k o => kbB (z5 m k) fun v => wn g s v o K)
  (fun k i o w => kbR (z5 m k) (fun es n q => @Bool.rec (fun _ => RO) (.no [98]) (wn g s (Sq.get .und q i) o K) (ja (Nat.beq w es) (Nat.blt i n)))
   (fun es n q => @Bool.rec (fun _ => RO) (.no [98]) (wn g s (Sq.get .und q i) o K) (ja (Nat.beq w es) (Nat.blt i n))))
def layF(v:V)(o s:Nat)(x:V)(K:V→RO):RO:=
 (fun z=>qX x s (stV v o s x K z) z) (@Option.rec V (fun _=>RO) (.no [96]) K (putV v o s x))
def setS(S0:S)(k:Key)(b:KB)(K:V→S→RO):RO:= @S.rec (fun _=>RO) (fun m nx dn sc=>K (.tu []) ⟨Ae m k (some b),nx,dn,sc⟩) S0
def Aj (s : Nat) (S0 : S) (p x : V) (K : V → S → RO) : RO :=
 qP p (fun k o => kbB (z5 S0.m k) fun v => layF v o s x fun y => setS S0 k (.bx y) K)
  (fun k i o w => kbR (z5 S0.m k)
   (fun es n q => @Bool.rec (fun _ => RO) (.no [98]) (layF (Sq.get .und q i) o s x fun y => setS S0 k (.arr es n (Sq.set y q i)) K) (ja (Nat.beq w es) (Nat.blt i n)))
   (fun es n q => @Bool.rec (fun _ => RO) (.no [98]) (layF (Sq.get .und q i) o s x fun y => setS S0 k (.gro es n (Sq.set y q i)) K) (ja (Nat.beq w es) (Nat.blt i n))))
def nxD:D16→(D16→RO)→RO→RO:= @D16.rec (fun _=>(D16→RO)→RO→RO)
 (fun f _=>f .d1) (fun f _=>f .d2) (fun f _=>f .d3) (fun f _=>f .d4) (fun f _=>f .d5) (fun f _=>f .d6) (fun f _=>f .d7) (fun f _=>f .d8) (fun f _=>f .d9) (fun f _=>f .d10) (fun f _=>f .d11) (fun f _=>f .d12) (fun f _=>f .d13) (fun f _=>f .d14) (fun f _=>f .d15) (fun _ z=>z)
def Bk(k:Key)(f:Key→RO):RO:= @Key.rec (fun _=>RO) (fun a b c d=>nxD d (fun d=>f ⟨a,b,c,d⟩) (nxD c (fun c=>f ⟨a,b,c,.d0⟩) (nxD b (fun b=>f ⟨a,b,.d0,.d0⟩) (nxD a (fun a=>f ⟨a,.d0,.d0,.d0⟩) (.no []))))) k
def newF(S0:S)(v:V)(K:V→S→RO):RO:= @S.rec (fun _=>RO) (fun m nx dn sc=>Bk nx fun k'=>K (.pp nx 0) ⟨Ae m nx (some (.bx v)),k',dn,sc⟩) S0
def roK(r:RO)(K:V→S→RO):RO:= @RO.rec (fun _=>RO) (fun v s=>K v s) (fun t=> .no t) (fun n=> .need n) r
abbrev Row:=N16 V
structure Rc where
 call:FuncId→Row→Nat→S→RO
structure LC (γ:Type) where
 ih:q9→S→RO
 up:γ
structure CK (γ:Type) where
 f:γ→q9→S→RO
structure CF (γ α:Type) where
 f:γ→α→q9→S→RO
structure RG (γ:Type) where
 f:γ→FuncId→Row→Nat→S→RO
structure Fm (α:Type) where
 v:V
 r:α
inductive Src (α:Type) where
 |c (v:V)
 |g (d:Bool) (dep:Nat) (f:α→q9→V)
 |dead
abbrev Mp(α:Type):=List (Nat×Src α)
structure GV (α:Type) where
 f:α→q9→V
structure VL (α:Type) where
 f:α→q9→List V
structure CD (α:Type) where
 f:α→q9→RO→RO
structure VC (α:Type) where
 f:α→q9→S→(V→RO)→RO
structure OC (γ α:Type) where
 f:γ→α→q9→S→(V→S→RO)→RO
structure HK (α:Type) where
 f:α→q9→S→KR
structure GS (α:Type) where
 f:α→S
def Src.up{α:Type}(x:Src α):Src (Fm α):=match x with| .c v=> .c v| .g d n f=> .g d n (fun fr e=>f fr.r e)| .dead=> .dead
def upM{α:Type}(m:Mp α):Mp (Fm α):=m.map fun p=>(p.1,p.2.up)
def Pb{α:Type}(t:Nat)(y:Src α):Src α:=match y with| .g d n f=>bif Nat.beq n (t+1)then .dead else .g d n f|y=>y
def zb{α:Type}(t:Nat)(m:Mp α):Mp α:=m.map fun p=>(p.1,Pb t p.2)
def v6{α:Type}(t:Nat):Mp α→Option (Src α)
 |[]=>none
 |p::r=>bif Nat.beq p.1 t then some p.2 else v6 t r
def gT(t:Nat):GE:=gTab (D16.of (Nat.div t 16)) (D16.of (Nat.mod t 16))
def sT(t:Nat):SE:=sTab (D16.of (Nat.div t 16)) (D16.of (Nat.mod t 16))
abbrev Kont(γ α:Type):=(β:Type)→(β→α)→Mp β→Nat→CF γ β
section
variable {γ α:Type} (P:Program) (pr:vw) (rg:RG γ) (loc D:Nat) (m:Mp α) (k:Kont γ α)
def src(x:Operand):Option (Src α):=
 match x with
 | .tmp t=>bif Nat.testBit loc t then(match v6 t m with|some .dead=>none|y=>y)else(bif Nat.blt t 256 then(match gT t with|⟨f⟩=>some (.g (Nat.testBit D t) (t+1) fun _ e=>f e))else none)
 | .const v=>frcV (jC v) (fun c=>some (.c c)) none
 | .func f=>some (.c (.uu (.func (.func f) #[] #[])))
 | .global _=>none
def gv(x:Operand):Option (GV α):=match src loc D m x with|some (.c v)=>some ⟨fun _ _=>v⟩|some (.g _ _ f)=>some ⟨f⟩|_=>none
def gvD(x:Operand):Option (GV α):=match src loc D m x with|some (.c v)=>some ⟨fun _ _=>v⟩|some (.g true _ f)=>some ⟨f⟩|_=>none
def gvs:List Operand→Option (VL α)
 |[]=>some ⟨fun _ _=>[]⟩
 |x::r=>match gv loc D m x,gvs r with
  |some ⟨g⟩,some ⟨l⟩=>some ⟨fun fr e=>g fr e::l fr e⟩
  |_,_=>none
def dfs:List Operand→Option (CD α)
 |[]=>some ⟨fun _ _ z=>z⟩
 |x::r=>match src loc D m x,dfs r with
  |some (.c _),l=>l
  |some (.g true _ _),l=>l
  |some (.g false _ f),some ⟨l⟩=>some ⟨fun fr e z=>qD (f fr e) (l fr e z)⟩
  |_,_=>none
structure RW (α:Type) where
 f:α→q9→Row
def FL(l:List Operand):Option (RW α):=
 match l with
 |[]=>some ⟨fun _ _=>⟨.und,.und,.und,.und,.und,.und,.und,.und,.und,.und,.und,.und,.und,.und,.und,.und⟩⟩
 |[a]=>(match gv loc D m a with|some ⟨a⟩=>some ⟨fun fr e=>⟨a fr e,.und,.und,.und,.und,.und,.und,.und,.und,.und,.und,.und,.und,.und,.und,.und⟩⟩|_=>none)
 |[a,b]=>(match gv loc D m a,gv loc D m b with|some ⟨a⟩,some ⟨b⟩=>some ⟨fun fr e=>⟨a fr e,b fr e,.und,.und,.und,.und,.und,.und,.und,.und,.und,.und,.und,.und,.und,.und⟩⟩|_,_=>none)
 |[a,b,c]=>(match gv loc D m a,gv loc D m b,gv loc D m c with|some ⟨a⟩,some ⟨b⟩,some ⟨c⟩=>some ⟨fun fr e=>⟨a fr e,b fr e,c fr e,.und,.und,.und,.und,.und,.und,.und,.und,.und,.und,.und,.und,.und⟩⟩|_,_,_=>none)
 |l=>(match gvs loc D m l with|some ⟨l⟩=>some ⟨fun fr e=>(j9 (l fr e)).c0⟩|none=>none)
def badC:CF γ α:=⟨fun _ _ _ _=> .no [99]⟩
def Km(dst:Option Tmp)(h:VC α):CF γ α:=
 match h with
 |⟨h⟩=>match dst with
  |none=>(match k α id m D with|⟨K⟩=>⟨fun c fr e s=>h fr e s fun _=>K c fr e s⟩)
  |some t=>bif Nat.testBit loc t then(match k (Fm α) (fun f=>f.r) ((t,.g true 0 fun fr _=>fr.v)::upM m) D with|⟨K⟩=>⟨fun c fr e s=>h fr e s fun v=>K c ⟨v,fr⟩ e s⟩)
   else(match k α id (zb t m) (D|||2^t),sT t with|⟨K⟩,⟨st⟩=>⟨fun c fr e s=>h fr e s fun v=>K c fr (st v e) s⟩)
def Pf:PSigma fun F=>F= @Km:=by
 delta Km
 try delta wn
 try delta z3
 try delta layF
 try delta Aj
 try delta newF
 try delta Bk
 try delta nxD
 try delta setS
 try delta roK
 try delta kbB
 try delta kbR
 try delta nnK
 try delta ja
 try delta notB
 try delta kbB
 try delta kbR
 try delta qNN
 try delta qN
 try delta qP
 try delta qS
 try delta qB
 try delta qG
 try delta qD
 try delta qF
 try delta qC
 try delta qZ
 try delta qX
 try delta qT
 try delta qK
 try delta ld1
 try delta ldA
 try delta stV
 try delta uAt
 try delta Ct
 try delta uAt3
 try delta C1
 try delta Cu
 try delta Cv
 try delta z5
 try delta Ae
 try delta mg1
 try delta mg2
 try delta mg3
 try delta mg4
 try delta ms1
 try delta ms2
 try delta ms3
 try delta ms4
 try delta S.m
 try delta S.nx
 try delta Fm.v
 try delta Fm.r
 try delta Fs.s
 try delta Fs.r
 try delta LC.ih
 try delta LC.up
 try delta Rc.call
 try delta CF.f
 try delta CK.f
 try delta N16.c0
 try delta N16.c1
 try delta N16.c2
 try delta N16.c3
 try delta N16.c4
 try delta N16.c5
 try delta N16.c6
 try delta N16.c7
 try delta N16.c8
 try delta N16.c9
 try delta N16.c10
 try delta N16.c11
 try delta N16.c12
 try delta N16.c13
 try delta N16.c14
 try delta N16.c15
 exact⟨_,rfl⟩
def finV(dst:Option Tmp)(h:VC α):CF γ α:=Pf.1 loc D m k dst h
def Kl(dst:Option Tmp)(h:OC γ α):CF γ α:=
 match h with
 |⟨h⟩=>match dst with
  |none=>(match k α id m D with|⟨K⟩=>⟨fun c fr e s=>h c fr e s fun _ s'=>K c fr e s'⟩)
  |some t=>bif Nat.testBit loc t then(match k (Fm α) (fun f=>f.r) ((t,.g true 0 fun fr _=>fr.v)::upM m) D with|⟨K⟩=>⟨fun c fr e s=>h c fr e s fun v s'=>K c ⟨v,fr⟩ e s'⟩)
   else(match k α id (zb t m) (D|||2^t),sT t with|⟨K⟩,⟨st⟩=>⟨fun c fr e s=>h c fr e s fun v s'=>K c fr (st v e) s'⟩)
def Pe:PSigma fun F=>F= @Kl:=by
 delta Kl
 try delta wn
 try delta z3
 try delta layF
 try delta Aj
 try delta newF
 try delta Bk
 try delta nxD
 try delta setS
 try delta roK
 try delta kbB
 try delta kbR
 try delta nnK
 try delta ja
 try delta notB
 try delta kbB
 try delta kbR
 try delta qNN
 try delta qN
 try delta qP
 try delta qS
 try delta qB
 try delta qG
 try delta qD
 try delta qF
 try delta qC
 try delta qZ
 try delta qX
 try delta qT
 try delta qK
 try delta ld1
 try delta ldA
 try delta stV
 try delta uAt
 try delta Ct
 try delta uAt3
 try delta C1
 try delta Cu
 try delta Cv
 try delta z5
 try delta Ae
 try delta mg1
 try delta mg2
 try delta mg3
 try delta mg4
 try delta ms1
 try delta ms2
 try delta ms3
 try delta ms4
 try delta S.m
 try delta S.nx
 try delta Fm.v
 try delta Fm.r
 try delta Fs.s
 try delta Fs.r
 try delta LC.ih
 try delta LC.up
 try delta Rc.call
 try delta CF.f
 try delta CK.f
 try delta N16.c0
 try delta N16.c1
 try delta N16.c2
 try delta N16.c3
 try delta N16.c4
 try delta N16.c5
 try delta N16.c6
 try delta N16.c7
 try delta N16.c8
 try delta N16.c9
 try delta N16.c10
 try delta N16.c11
 try delta N16.c12
 try delta N16.c13
 try delta N16.c14
 try delta N16.c15
 exact⟨_,rfl⟩
def finO(dst:Option Tmp)(h:OC γ α):CF γ α:=Pe.1 loc D m k dst h
def Kk(dst:Option Tmp)(x:Src α):CF γ α:=
 match x,dst with
 | .c v,some t=>bif Nat.testBit loc t then k α id ((t,.c v)::m) D else(match k α id (zb t m) (D|||2^t),sT t with|⟨K⟩,⟨st⟩=>⟨fun c fr e s=>K c fr (st v e) s⟩)
 | .g true n f,some t=>bif Nat.testBit loc t then k α id ((t,.g true n f)::m) D else(match k α id (zb t m) (D|||2^t),sT t with|⟨K⟩,⟨st⟩=>⟨fun c fr e s=>K c fr (st (f fr e) e) s⟩)
 | .g false n f,some t=>bif Nat.testBit loc t then(match k α id ((t,.g true n f)::m) D with|⟨K⟩=>⟨fun c fr e s=>qD (f fr e) (K c fr e s)⟩)else(match k α id (zb t m) (D|||2^t),sT t with|⟨K⟩,⟨st⟩=>⟨fun c fr e s=>qF (f fr e) fun v=>K c fr (st v e) s⟩)
 |_,_=>badC
def Pd:PSigma fun F=>F= @Kk:=by
 delta Kk
 try delta wn
 try delta z3
 try delta layF
 try delta Aj
 try delta newF
 try delta Bk
 try delta nxD
 try delta setS
 try delta roK
 try delta kbB
 try delta kbR
 try delta nnK
 try delta ja
 try delta notB
 try delta kbB
 try delta kbR
 try delta qNN
 try delta qN
 try delta qP
 try delta qS
 try delta qB
 try delta qG
 try delta qD
 try delta qF
 try delta qC
 try delta qZ
 try delta qX
 try delta qT
 try delta qK
 try delta ld1
 try delta ldA
 try delta stV
 try delta uAt
 try delta Ct
 try delta uAt3
 try delta C1
 try delta Cu
 try delta Cv
 try delta z5
 try delta Ae
 try delta mg1
 try delta mg2
 try delta mg3
 try delta mg4
 try delta ms1
 try delta ms2
 try delta ms3
 try delta ms4
 try delta S.m
 try delta S.nx
 try delta Fm.v
 try delta Fm.r
 try delta Fs.s
 try delta Fs.r
 try delta LC.ih
 try delta LC.up
 try delta Rc.call
 try delta CF.f
 try delta CK.f
 try delta N16.c0
 try delta N16.c1
 try delta N16.c2
 try delta N16.c3
 try delta N16.c4
 try delta N16.c5
 try delta N16.c6
 try delta N16.c7
 try delta N16.c8
 try delta N16.c9
 try delta N16.c10
 try delta N16.c11
 try delta N16.c12
 try delta N16.c13
 try delta N16.c14
 try delta N16.c15
 exact⟨_,rfl⟩
def finM(dst:Option Tmp)(x:Src α):CF γ α:=Pd.1 loc D m k dst x
structure NT where
 f:List V→(V→RO)→RO
def nthC:Nat→NT
 |0=>⟨fun l K=> @List.rec V (fun _=>RO) (.no [97]) (fun v _ _=>qF v K) l⟩
 |n+1=>match nthC n with|⟨g⟩=>⟨fun l K=> @List.rec V (fun _=>RO) (.no [97]) (fun _ r _=>g r K) l⟩
def jX (op : Op) : Option (VC α) :=
 match op with
 | .load t x => (match gv loc D m x, qy P t with
  | some ⟨g⟩, some (true, sz) => some ⟨fun fr e s K => qP (g fr e) (fun k o => kbB (z5 s.m k) fun v => ldA v sz o K (qF (ldS true sz v o []).res K))
    (fun k i o w => kbR (z5 s.m k) (fun es n q => @Bool.rec (fun _ => RO) (.no [98]) ((fun v => ldA v sz o K (qF (ldS true sz v o []).res K)) (Sq.get .und q i)) (ja (Nat.beq w es) (Nat.blt i n)))
     (fun es n q => @Bool.rec (fun _ => RO) (.no [98]) ((fun v => ldA v sz o K (qF (ldS true sz v o []).res K)) (Sq.get .und q i)) (ja (Nat.beq w es) (Nat.blt i n))))⟩
  | some ⟨g⟩, some (false, 1) => some ⟨fun fr e s K => qP (g fr e) (fun k o => kbB (z5 s.m k) fun v => ld1 v o K)
    (fun k i o w => kbR (z5 s.m k) (fun es n q => @Bool.rec (fun _ => RO) (.no [98]) (ld1 (Sq.get .und q i) o K) (ja (Nat.beq w es) (Nat.blt i n)))
     (fun es n q => @Bool.rec (fun _ => RO) (.no [98]) (ld1 (Sq.get .und q i) o K) (ja (Nat.beq w es) (Nat.blt i n))))⟩
  | _, _ => none)
 | .binOp op t x y _ => (match gv loc D m x, src loc D m y with
  | some ⟨x⟩, some sy => bif isSh op then (match gv loc D m y with | some ⟨y⟩ => some ⟨fun fr e _ K => qF (kBin P op t (x fr e) (y fr e)).res K⟩ | none => none)
   else (match binH op, sy with
    | ⟨h⟩, .c (.nn kc c) => some ⟨fun fr e _ K => qNN (x fr e) (fun k a => @Bool.rec (fun _ => RO) (.no [92]) (h k a c K) (keqF k kc)) fun x => qF (kBin P op t x (.nn kc c)).res K⟩
    | ⟨h⟩, .c y => some ⟨fun fr e _ K => qF (kBin P op t (x fr e) y).res K⟩
    | _, .dead => none
    | ⟨h⟩, .g _ _ y => some ⟨fun fr e _ K => qNN (x fr e) (fun k a => qNN (y fr e) (fun k' b => @Bool.rec (fun _ => RO) (.no [92]) (h k a b K) (keqF k k')) fun y => qF (kBin P op t (.nn k a) y).res K) fun x => qF (kBin P op t x (y fr e)).res K⟩)
  | _, _ => none)
 | .fieldAddr s x f => (match gv loc D m x, vo P s f with
  | some ⟨g⟩, some (0, _, sz) => bif Nat.beq sz 0 then none else some ⟨fun fr e _ K => qP (g fr e) (fun k o => K (.pp k o)) fun k i o w => K (.ee k i o w)⟩
  | some ⟨g⟩, some (fo, _, sz) => bif Nat.beq sz 0 then none else some ⟨fun fr e _ K => qP (g fr e) (fun k o => K (.pp k (Nat.add o fo))) fun k i o w => K (.ee k i (Nat.add o fo) w)⟩
  | _, _ => none)
 | .indexAddr t x y => (match gv loc D m x, gv loc D m y with
  | some ⟨x⟩, some ⟨y⟩ => (match GZ P t with
   | some (n, s) => some ⟨fun fr e _ K => qN (y fr e) fun j => qP (x fr e) (fun k o => @Bool.rec (fun _ => RO) (.no [98]) (K (.pp k (Nat.add o (Nat.mul j s)))) (Nat.blt j n)) (fun k q o w => @Bool.rec (fun _ => RO) (.no [98]) (K (.ee k q (Nat.add o (Nat.mul j s)) w)) (Nat.blt j n))⟩
   | none => (match jj P t with
    | some es => some ⟨fun fr e _ K => qN (y fr e) fun j => qS (x fr e) (fun k lo n c w => @Bool.rec (fun _ => RO) (.no [98]) (K (.ee k (Nat.add lo j) 0 w)) (ja (Nat.beq es w) (Nat.blt j n))) (fun k lo n w => @Bool.rec (fun _ => RO) (.no [98]) (K (.ee k (Nat.add lo j) 0 w)) (ja (Nat.beq es w) (Nat.blt j n))) fun _ => .no [98]⟩
    | none => none))
  | _, _ => none)
 | .nilCheck x => (match gv loc D m x with | some ⟨x⟩ => some ⟨fun fr e _ K => qP (x fr e) (fun k o => K (.pp k o)) fun k i o w => K (.ee k i o w)⟩ | none => none)
 | .unOp .not _ x => (match gv loc D m x with | some ⟨x⟩ => some ⟨fun fr e _ K => qB (x fr e) fun b => K (.bb (notB b))⟩ | none => none)
 | .unOp op _ x => (match gv loc D m x with | some ⟨x⟩ => some ⟨fun fr e _ K => qF (kUn P op (x fr e)).res K⟩ | none => none)
 | .pick c x y => (match gvD loc D m x, gvD loc D m y, gv loc D m c with
  | some ⟨x⟩, some ⟨y⟩, some ⟨c⟩ => some ⟨fun fr e _ K => qB (c fr e) fun b => @Bool.rec (fun _ => RO) (K (y fr e)) (K (x fr e)) b⟩
  | _, _, _ => (match gv loc D m x, gv loc D m y, gv loc D m c with
   | some ⟨x⟩, some ⟨y⟩, some ⟨c⟩ => some ⟨fun fr e _ K => qF (Ce (c fr e) (x fr e) (y fr e)).res K⟩
   | _, _, _ => none))
 | .convert s t x => (match gv loc D m x, intK P t, P.underlying s with
  | some ⟨x⟩, some k, some _ => some ⟨fun fr e _ K => qNN (x fr e) (fun _ n => nnK k n K) fun x => qF (Cd P s t x).res K⟩
  | _, _, _ => none)
 | .extract x i => (match gv loc D m x, nthC i with | some ⟨x⟩, ⟨g⟩ => some ⟨fun fr e _ K => qT (x fr e) fun l => g l K⟩ | none, _ => none)
 | .field s x f => (match gv loc D m x with | some ⟨x⟩ => some ⟨fun fr e _ K => qF (BR P s f (x fr e)).res K⟩ | none => none)
 | .index t x y => (match gv loc D m x, gv loc D m y with | some ⟨x⟩, some ⟨y⟩ => some ⟨fun fr e _ K => qF (BS P t (x fr e) (y fr e)).res K⟩ | _, _ => none)
 | .build t ps => (match gvs loc D m (ps.toList.map (·.2)) with | some ⟨l⟩ => some ⟨fun fr e _ K => qF (BQ P t (ps.toList.map (·.1)) (l fr e)).res K⟩ | none => none)
 | .makeFunc fn fs cs => (match gvs loc D m cs.toList with | some ⟨l⟩ => some ⟨fun fr e _ K => qF (AJ fn fs (l fr e)).res K⟩ | none => none)
 | .slice t x lo hi none => (match gv loc D m x with
  | some ⟨g⟩ => (match lo, hi with
   | none, none => some ⟨fun fr e _ K => qF (zf P t (g fr e) none none).res K⟩
   | some l, none => (match gv loc D m l with | some ⟨gl⟩ => some ⟨fun fr e _ K => qF (zf P t (g fr e) (some (gl fr e)) none).res K⟩ | none => none)
   | none, some h => (match gv loc D m h with | some ⟨gh⟩ => some ⟨fun fr e _ K => qF (zf P t (g fr e) none (some (gh fr e))).res K⟩ | none => none)
   | some l, some h => (match gv loc D m l, gv loc D m h with | some ⟨gl⟩, some ⟨gh⟩ => some ⟨fun fr e _ K => qF (zf P t (g fr e) (some (gl fr e)) (some (gh fr e))).res K⟩ | _, _ => none))
  | none => none)
 | .call { callee := .builtin .len, args := xs, argTypes := ts } => (match xs.toList, ts.toList with
  | [x], [t] => (match gv loc D m x with
   | some ⟨g⟩ => bif jo P t then some ⟨fun fr e _ K => qS (g fr e) (fun k lo n c w => K (.nn .i64 n)) (fun k lo n w => K (.nn .i64 n)) fun v => qF (kLen P t v).res K⟩ else some ⟨fun fr e _ K => qF (kLen P t (g fr e)).res K⟩
   | none => none)
  | _, _ => none)
 | _ => none
def Lc:PSigma fun F=>F= @jX:=by
 delta jX
 try delta wn
 try delta z3
 try delta layF
 try delta Aj
 try delta newF
 try delta Bk
 try delta nxD
 try delta setS
 try delta roK
 try delta kbB
 try delta kbR
 try delta nnK
 try delta ja
 try delta notB
 try delta kbB
 try delta kbR
 try delta qNN
 try delta qN
 try delta qP
 try delta qS
 try delta qB
 try delta qG
 try delta qD
 try delta qF
 try delta qC
 try delta qZ
 try delta qX
 try delta qT
 try delta qK
 try delta ld1
 try delta ldA
 try delta stV
 try delta uAt
 try delta Ct
 try delta uAt3
 try delta C1
 try delta Cu
 try delta Cv
 try delta z5
 try delta Ae
 try delta mg1
 try delta mg2
 try delta mg3
 try delta mg4
 try delta ms1
 try delta ms2
 try delta ms3
 try delta ms4
 try delta S.m
 try delta S.nx
 try delta Fm.v
 try delta Fm.r
 try delta Fs.s
 try delta Fs.r
 try delta LC.ih
 try delta LC.up
 try delta Rc.call
 try delta CF.f
 try delta CK.f
 try delta N16.c0
 try delta N16.c1
 try delta N16.c2
 try delta N16.c3
 try delta N16.c4
 try delta N16.c5
 try delta N16.c6
 try delta N16.c7
 try delta N16.c8
 try delta N16.c9
 try delta N16.c10
 try delta N16.c11
 try delta N16.c12
 try delta N16.c13
 try delta N16.c14
 try delta N16.c15
 exact⟨_,rfl⟩
def Pa(op:Op):Option (VC α):=Lc.1 P loc D m op
def AG(op:Op):Option (HK α):=
 match op with
 | .buildSlice t n ps=>(match gvs loc D m (ps.toList.map (·.2))with|some ⟨l⟩=>some ⟨fun fr e s=>vD P t n (ps.toList.map (·.1)) (l fr e) s.nx⟩|none=>none)
 | .makeSlice t x y=>(match gv loc D m x,gv loc D m y with|some ⟨gx⟩,some ⟨gy⟩=>some ⟨fun fr e s=>z0 P t (gx fr e) (gy fr e) s.nx⟩|_,_=>none)
 | .makeMap t none=>some ⟨fun _ _ s=>At P t s.nx⟩
 | .lookup t x y c=>(match gv loc D m x,gv loc D m y with|some ⟨gx⟩,some ⟨gy⟩=>some ⟨fun fr e s=>By P s.m t c (gx fr e) (gy fr e)⟩|_,_=>none)
 | .mapUpdate t x y z=>(match gv loc D m x,gv loc D m y,gv loc D m z with|some ⟨gx⟩,some ⟨gy⟩,some ⟨gz⟩=>some ⟨fun fr e s=>CX P s.m t (gx fr e) (gy fr e) (gz fr e)⟩|_,_,_=>none)
 | .convert s t x=>(match gv loc D m x with|some ⟨gx⟩=>some ⟨fun fr e S0=>zF P S0.m s t (gx fr e)⟩|none=>none)
 | .call {callee:= .builtin b,args:=xs,argTypes:=ts}=>(match gvs loc D m xs.toList with
  |some ⟨l⟩=>(match b with
   | .append=>(match ts.toList,xs.toList with
    |[t,u],[x,y]=>(match gv loc D m x,gv loc D m y with|some ⟨gx⟩,some ⟨gy⟩=>some ⟨fun fr e s=>CW P t u s.m (gx fr e) (gy fr e) s.nx⟩|_,_=>none)
    |_,_=>none)
   |b=>some ⟨fun fr e s=>vM P b ts.toList (l fr e) s.m s.nx⟩)
  |none=>none)
 |_=>none
def Hc(op:Op):Option (OC γ α):=
 match op with
 | .store t x y=>(match gv loc D m x,gv loc D m y,qy P t with|some ⟨x⟩,some ⟨y⟩,some (_,sz)=>some ⟨fun _ fr e s K=>Aj sz s (x fr e) (y fr e) K⟩|_,_,_=>none)
 | .alloc t=>frcV (vS P t) (fun z=>some ⟨fun _ _ _ s K=>newF s z K⟩) none
 | .box _ x=>(match gv loc D m x with|some ⟨g⟩=>some ⟨fun _ fr e s K=>qK (g fr e) fun v=>newF s v K⟩|none=>none)
 | .call {callee:= .value f,args:=xs,argTypes:=_}=>(match f with
  | .func g=>(match pr g with
   |some h=>(match gvs loc D m xs.toList,dfs loc D m xs.toList with|some ⟨l⟩,some ⟨d⟩=>some ⟨fun _ fr e s K=>d fr e (roK (h (l fr e) s) fun v s=>qF v fun v=>K v s)⟩|_,_=>none)
   |none=>(match FL loc D m xs.toList,dfs loc D m xs.toList,rg with|some ⟨w⟩,some ⟨d⟩,⟨r⟩=>some ⟨fun c fr e s K=>d fr e (roK (r c g (w fr e) xs.size s) K)⟩|_,_,_=>none))
  |f=>(match gv loc D m f,gvs loc D m xs.toList,dfs loc D m xs.toList,rg with
   |some ⟨f⟩,some ⟨l⟩,some ⟨d⟩,⟨r⟩=>some ⟨fun c fr e s K=> @Option.rec (FuncId×List (Key×Nat)) (fun _=>RO) (.no [4]) (fun p=>d fr e (roK ((fun vs=>r c p.1 (j9 vs).c0 vs.length s) (l fr e++p.2.map fun p=> .pp p.1 p.2)) K)) (vJ (f fr e))⟩
   |_,_,_,_=>none))
 |op=>(match AG P loc D m op with|some ⟨h⟩=>some ⟨fun _ fr e s K=>roK (ap s (h fr e s)) fun v s=>qF v fun v=>K v s⟩|none=>none)
def L9:PSigma fun F=>F= @Hc:=by
 delta Hc
 try delta wn
 try delta z3
 try delta layF
 try delta Aj
 try delta newF
 try delta Bk
 try delta nxD
 try delta setS
 try delta roK
 try delta kbB
 try delta kbR
 try delta nnK
 try delta ja
 try delta notB
 try delta kbB
 try delta kbR
 try delta qNN
 try delta qN
 try delta qP
 try delta qS
 try delta qB
 try delta qG
 try delta qD
 try delta qF
 try delta qC
 try delta qZ
 try delta qX
 try delta qT
 try delta qK
 try delta ld1
 try delta ldA
 try delta stV
 try delta uAt
 try delta Ct
 try delta uAt3
 try delta C1
 try delta Cu
 try delta Cv
 try delta z5
 try delta Ae
 try delta mg1
 try delta mg2
 try delta mg3
 try delta mg4
 try delta ms1
 try delta ms2
 try delta ms3
 try delta ms4
 try delta S.m
 try delta S.nx
 try delta Fm.v
 try delta Fm.r
 try delta Fs.s
 try delta Fs.r
 try delta LC.ih
 try delta LC.up
 try delta Rc.call
 try delta CF.f
 try delta CK.f
 try delta N16.c0
 try delta N16.c1
 try delta N16.c2
 try delta N16.c3
 try delta N16.c4
 try delta N16.c5
 try delta N16.c6
 try delta N16.c7
 try delta N16.c8
 try delta N16.c9
 try delta N16.c10
 try delta N16.c11
 try delta N16.c12
 try delta N16.c13
 try delta N16.c14
 try delta N16.c15
 exact⟨_,rfl⟩
def Ki(op:Op):Option (OC γ α):=L9.1 P pr rg loc D m op
def Lb(o:Oper):CF γ α:=
 match(match o.op with| .move x=>src loc D m x| .assign x=>src loc D m x|_=>none)with
 |some x=>finM loc D m k o.dst x
 |none=>(match Pa P loc D m o.op with
  |some h=>finV loc D m k o.dst h
  |none=>(match Ki P pr rg loc D m o.op with
   |some h=>finO loc D m k o.dst h
   |none=>badC))
def gdC0(all:List Oper)(o:Oper)(run skip:CF γ α):CF γ α:=
 match o.guard with
 |none=>run
 |some (j,w)=>(match(all[j]?).bind (·.dst)with
  |some t=>(match gv loc D m (.tmp t)with
   |some ⟨g⟩=>(match o.dst with
    |some d=>bif Nat.testBit loc d then badC else(match sT d with
     |⟨st⟩=>⟨fun c fr e s=>qG (g fr e) (fun b=> @Bool.rec (fun _=>RO) (skip.f c fr (st (.tu []) e) s) (run.f c fr e s) (@Bool.rec (fun _=>Bool) (notB b) b w)) (skip.f c fr (st (.tu []) e) s)⟩)
    |none=>⟨fun c fr e s=>qG (g fr e) (fun b=> @Bool.rec (fun _=>RO) (skip.f c fr e s) (run.f c fr e s) (@Bool.rec (fun _=>Bool) (notB b) b w)) (skip.f c fr e s)⟩)
   |none=>badC)
  |none=>badC)
def gdCP:PSigma fun F=>F= @gdC0:=by
 delta gdC0
 try delta wn
 try delta z3
 try delta layF
 try delta Aj
 try delta newF
 try delta Bk
 try delta nxD
 try delta setS
 try delta roK
 try delta kbB
 try delta kbR
 try delta nnK
 try delta ja
 try delta notB
 try delta kbB
 try delta kbR
 try delta qNN
 try delta qN
 try delta qP
 try delta qS
 try delta qB
 try delta qG
 try delta qD
 try delta qF
 try delta qC
 try delta qZ
 try delta qX
 try delta qT
 try delta qK
 try delta ld1
 try delta ldA
 try delta stV
 try delta uAt
 try delta Ct
 try delta uAt3
 try delta C1
 try delta Cu
 try delta Cv
 try delta z5
 try delta Ae
 try delta mg1
 try delta mg2
 try delta mg3
 try delta mg4
 try delta ms1
 try delta ms2
 try delta ms3
 try delta ms4
 try delta S.m
 try delta S.nx
 try delta Fm.v
 try delta Fm.r
 try delta Fs.s
 try delta Fs.r
 try delta LC.ih
 try delta LC.up
 try delta Rc.call
 try delta CF.f
 try delta CK.f
 try delta N16.c0
 try delta N16.c1
 try delta N16.c2
 try delta N16.c3
 try delta N16.c4
 try delta N16.c5
 try delta N16.c6
 try delta N16.c7
 try delta N16.c8
 try delta N16.c9
 try delta N16.c10
 try delta N16.c11
 try delta N16.c12
 try delta N16.c13
 try delta N16.c14
 try delta N16.c15
 exact⟨_,rfl⟩
def gdC(all:List Oper)(o:Oper)(run skip:CF γ α):CF γ α:=gdCP.1 loc D m all o run skip
def skD(dst:Option Tmp):Nat:=match dst with|some t=>D|||2^t|none=>D
def skM(dst:Option Tmp):Mp α:=match dst with|some t=>zb t m|none=>m
def Du(all:List Oper)(o:Oper):CF γ α:=gdC loc D m all o (Lb P pr rg loc D m k o) (k α id (skM m o.dst) (skD D o.dst))
end
section
variable {γ:Type} (P:Program) (pr:vw) (rg:RG γ) (loc:Nat) (nrm:CK γ)
def Bq(all:List Oper)(l:List Oper):(β:Type)→Mp β→Nat→CF γ β:=
 @List.rec Oper (fun _=>(β:Type)→Mp β→Nat→CF γ β) (fun _ _ _=>match nrm with|⟨f⟩=>⟨fun c _ e s=>f c e s⟩) (fun o _ ih=>fun α m D=>Du P pr rg loc D m (fun β _ m D=>ih β m D) all o) l
def P9(D:Nat)(ops:List Oper):CK γ:=match Bq P pr rg loc nrm ops ops Unit [] D with|⟨f⟩=>⟨fun c e s=>tramp (f c () e s)⟩
structure Fs (α:Type) where
 s:S
 r:α
def Src.us{α:Type}(x:Src α):Src (Fs α):=match x with| .c v=> .c v| .g d n f=> .g d n (fun fr e=>f fr.r e)| .dead=> .dead
def GS.by{α β:Type}(g:GS α)(p:β→α):GS β:=match g with|⟨f⟩=>⟨fun fr=>f (p fr)⟩
end
def keyB(a b:Key):Bool:=ja (Nat.beq a.d.n b.d.n) (ja (Nat.beq a.c.n b.c.n) (ja (Nat.beq a.b.n b.b.n) (Nat.beq a.a.n b.a.n)))
def P5(a b:Bool):Bool:= @Bool.rec (fun _=>Bool) (@Bool.rec (fun _=>Bool) true false b) b a
def H5(a b:V):Bool:=
 match a,b with
 | .nn k n,.nn k' n'=>ja (keqF k k') (Nat.beq n n')
 | .zz k n,.zz k' n'=>ja (keqF k k') (Nat.beq n n')
 | .bb x,.bb y=>P5 x y
 | .qq s n d,.qq s' n' d'=>ja (P5 s s') (ja (Nat.beq n n') (Nat.beq d d'))
 | .mg n,.mg n'=>Nat.beq n n'
 | .pp k o,.pp k' o'=>ja (keyB k k') (Nat.beq o o')
 | .ee k i o w,.ee k' i' o' w'=>ja (keyB k k') (ja (Nat.beq i i') (ja (Nat.beq o o') (Nat.beq w w')))
 | .sl k lo n c w,.sl k' lo' n' c' w'=>ja (keyB k k') (ja (Nat.beq lo lo') (ja (Nat.beq n n') (ja (Nat.beq c c') (Nat.beq w w'))))
 | .gs k lo n w,.gs k' lo' n' w'=>ja (keyB k k') (ja (Nat.beq lo lo') (ja (Nat.beq n n') (Nat.beq w w')))
 | .mm k,.mm k'=>keyB k k'
 | .uu (.slice none a b),.uu (.slice none a' b')=>ja (Nat.beq a a') (Nat.beq b b')
 | .uu (.pointer none),.uu (.pointer none)=>true
 | .dl,.dl=>true
 | .st l,.st l'=>beqN l l'
 | .lp n i,.lp n' i'=>ja (Nat.beq n n') (Nat.beq i i')
 |_,_=>false
def Kh:List V→List V→Bool
 |[],[]=>true
 |a::l,b::r=>ja (H5 a b) (Kh l r)
 |_,_=>false
def beqV(a b:V):Bool:=
 match a,b with
 | .ag w l,.ag w' l'=>ja (Nat.beq w w') (Kh l l')
 |a,b=>H5 a b
structure LD (α:Type) where
 i:Nat
 sk:Bool
 g:Bool
 sz:Nat
 p:α→V
 v:α→V
def LD.by{α β:Type}(d:LD α)(p:β→α):LD β:=match d with|⟨i,sk,g,sz,q,v⟩=>⟨i,sk,g,sz,fun fr=>q (p fr),fun fr=>v (p fr)⟩
structure ZL (α:Type) where
 f:α→List Key
structure BL (α:Type) where
 f:α→S→RO→RO
def zGet{α:Type}(hs:List (Option (GS α))):List Nat→Option (ZL α)
 |[]=>some ⟨fun _=>[]⟩
 |u::us=>match(hs[u]?).join,zGet hs us with
  |some ⟨g⟩,some ⟨l⟩=>some ⟨fun fr=>(g fr).nx::l fr⟩
  |_,_=>none
def Hk{α:Type}(i:Nat):List (LD α)→Option (LD α)
 |[]=>none
 |d::r=>bif Nat.beq d.i i then some d else Hk i r
def chkL{α:Type}(n:Nat)(hs:List (Option (GS α)))(ld:List (LD α)):List (Nat×Nat)→Option (BL α)
 |[]=>some ⟨fun _ _ z=>z⟩
 |q::r=>match Hk q.1 ld,(hs[q.2]?).join,chkL n hs ld r with
  |some ⟨_,sk,gg,sz,p,v⟩,some ⟨g⟩,some ⟨b⟩=>bif sk then some ⟨b⟩else(bif Nat.beq (q.2+1) n then
    some ⟨fun fr s z=>z3 gg sz (g fr).m (p fr) fun w=> @Bool.rec (fun _=>RO) (.no [101]) (z3 gg sz s.m (p fr) fun w=> @Bool.rec (fun _=>RO) (.no [101]) (b fr s z) (beqV w (v fr))) (beqV w (v fr))⟩
   else(match(hs[q.2+1]?).join with
    |some ⟨g'⟩=>some ⟨fun fr s z=>z3 gg sz (g fr).m (p fr) fun w=> @Bool.rec (fun _=>RO) (.no [101]) (z3 gg sz (g' fr).m (p fr) fun w=> @Bool.rec (fun _=>RO) (.no [101]) (b fr s z) (beqV w (v fr))) (beqV w (v fr))⟩
    |none=>none))
  |_,_,_=>none
def Ux(s:S)(z:List Key)(s2:S):S:=⟨reK s.m s2.m z,s2.nx,s2.dn,s2.sc⟩
section
variable {γ:Type} (P:Program) (pr:vw) (rg:RG γ) (loc:Nat) (nrm:CK γ)
abbrev Dk(γ:Type):=(β:Type)→Mp β→Nat→List (Option (GS β))→List (LD β)→CF γ β
def Ui(P:Program)(all:List Oper)(M:List Nat)(i:Nat):Bool:=
 (ldP P all M).any (fun q=>Nat.beq q.2 i||Nat.beq (q.2+1) i)||(List.range all.length).any fun j=>(unz P all M j).any fun u=>Nat.beq u i
def Ao (all : List Oper) (M : List Nat) (i : Nat) (o : Oper) (rest : Dk γ) {α : Type} (m1 : Mp α) (D : Nat) (hs1 : List (Option (GS α))) (ld1 : List (LD α)) : CF γ α :=
 match o.op with
 | .load t x => (match unz P all M i, (ldP P all M).any (fun q => Nat.beq q.1 i) with
  | [], false => Du P pr rg loc D m1 (fun β pr mβ Dβ => rest β mβ Dβ (hs1.map fun h => h.map fun h => h.by pr) (ld1.map fun h => h.by pr)) all o
  | us, _ => (match gv loc D m1 x, qy P t, zGet hs1 us with
   | some ⟨g⟩, some (gg, sz), some ⟨zg⟩ => bif gg || Nat.beq sz 1 then gdC loc D m1 all o
    (match finV loc D (upM (upM m1)) (fun β pr mβ Dβ => rest β mβ Dβ (hs1.map fun h => h.map fun h => h.by fun x => (pr x).r.r) (⟨i, false, gg, sz, fun fr => (pr fr).r.v, fun fr => (pr fr).v⟩ :: ld1.map fun h => h.by fun x => (pr x).r.r)) o.dst ⟨fun fr _ _ K => K fr.v⟩ with
     | ⟨k⟩ => ⟨fun c fr e s => qF (g fr e) fun p => z3 gg sz (rmK s.m (zg fr)) p fun v => k c ⟨v, ⟨p, fr⟩⟩ e s⟩)
    (rest α (skM m1 o.dst) (skD D o.dst) hs1 (⟨i, true, gg, sz, fun _ => .und, fun _ => .und⟩ :: ld1)) else badC
   | _, _, _ => badC))
 | _ => (match unz P all M i with
  | [] => Du P pr rg loc D m1 (fun β pr mβ Dβ => rest β mβ Dβ (hs1.map fun h => h.map fun h => h.by pr) (ld1.map fun h => h.by pr)) all o
  | us => (match Ki P pr rg loc D m1 o.op, zGet hs1 us with
   | some ⟨h⟩, some ⟨zg⟩ => gdC loc D m1 all o (finO loc D m1 (fun β pr mβ Dβ => rest β mβ Dβ (hs1.map fun h => h.map fun h => h.by pr) (ld1.map fun h => h.by pr)) o.dst
     ⟨fun c fr e s K => (fun z => h c fr e ⟨rmK s.m z, s.nx, s.dn, s.sc⟩ fun v s2 => K v (Ux s z s2)) (zg fr)⟩)
    (rest α (skM m1 o.dst) (skD D o.dst) hs1 ld1)
   | _, _ => badC))
def Fh(all:List Oper)(M:List Nat)(i:Nat)(o:Oper)(rest:Dk γ){α:Type}(m:Mp α)(D:Nat)(hs:List (Option (GS α)))(ld:List (LD α)):CF γ α:=
 bif Ui P all M i then(match Ao P pr rg loc all M i o rest (m.map fun p=>(p.1,p.2.us)) D ((hs.map fun h=>h.map fun h=>h.by fun f=>f.r)++[some ⟨fun fr=>fr.s⟩]) (ld.map fun h=>h.by fun f=>f.r)with
  |⟨f⟩=>⟨fun c fr e s=>f c ⟨s,fr⟩ e s⟩)
 else Ao P pr rg loc all M i o rest m D (hs++[none]) ld
def CQ(all:List Oper)(M:List Nat)(l:List Oper):Nat→Dk γ:=
 @List.rec Oper (fun _=>Nat→Dk γ)
  (fun _ _ _ _ hs ld=>match chkL all.length hs ld (ldP P all M),nrm with|some ⟨b⟩,⟨f⟩=>⟨fun c fr e s=>b fr s (f c e s)⟩|none,_=>badC)
  (fun o _ ih=>fun i β m D hs ld=>Fh P pr rg loc all M i o (ih (i+1)) m D hs ld) l
def P7(D:Nat)(ops:List Oper):CK γ:=
 (fun M=>(match CQ P pr rg loc nrm ops M ops 0 Unit [] D [] []with|⟨f⟩=>(⟨fun c e s=>tramp (f c () e s)⟩:CK γ))) (masks 0 ops [])
end
def badK{γ:Type}:CK γ:=⟨fun _ _ _=> .no [99]⟩
abbrev Exs(γ:Type):=List (Nat×CK γ)
def Be{γ:Type}(i:Nat):Exs γ→CK γ
 |[]=>badK
 |p::r=>bif Nat.beq p.1 i then p.2 else Be i r
def CK.lift{γ:Type}(x:CK γ):CK (LC γ):=match x with|⟨f⟩=>⟨fun c e s=>f c.up e s⟩
def RG.lift{γ:Type}(x:RG γ):RG (LC γ):=match x with|⟨f⟩=>⟨fun c=>f c.up⟩
abbrev Den:=(γ:Type)→RG γ→Nat→CK γ→Exs γ→CK γ→CK γ
def Fz(f:(q9→S→RO)→q9→S→RO)(n:Nat):q9→S→RO:= @Nat.rec (fun _=>q9→S→RO) (fun _ _=> .no [7]) (fun _ ih e s=>f ih e s) n
section
variable (P:Program) (pr:vw) (loc:Nat)
structure DenS where
 d:Den
 o:Nat→Nat
def fden (c : Code) : DenS :=
 @Code.rec (fun _ => DenS)
  ⟨fun _ _ _ nrm _ _ => nrm, fun D => D⟩
  (fun _ ops dr => ⟨fun γ rg D nrm _ _ => @Bool.rec (fun _ => CK γ) (P9 P pr rg loc nrm D ops.toList) (P7 P pr rg loc nrm D ops.toList) dr, fun D => ops.toList.foldl (fun D o => skD D o.dst) D⟩)
  (fun _ _ ha hb => ⟨fun γ rg D nrm ex ret => ha.d γ rg D (hb.d γ rg (ha.o D) nrm ex ret) ex ret, fun D => hb.o (ha.o D)⟩)
  (fun x _ _ ha hb => ⟨fun γ rg D nrm ex ret => match gv (α := Unit) loc D [] x, ha.d γ rg D nrm ex ret, hb.d γ rg D nrm ex ret with
   | some ⟨g⟩, ⟨fa⟩, ⟨fb⟩ => ⟨fun c e s => qB (g () e) fun b => @Bool.rec (fun _ => RO) (fb c e s) (fa c e s) b⟩
   | none, _, _ => badK, fun D => D⟩)
  (fun id _ h => ⟨fun γ rg D nrm ex ret => h.d γ rg D nrm ((id, nrm) :: ex) ret, fun D => D⟩)
  (fun _ h => ⟨fun γ rg D nrm ex ret => match h.d (LC γ) rg.lift D ⟨fun c e s => tramp (c.ih e s)⟩ (ex.map fun p => (p.1, p.2.lift)) ret.lift with
   | ⟨f⟩ => ⟨fun c e s => Fz (fun ih e s => f ⟨ih, c⟩ e s) 1000000 e s⟩, fun D => D⟩)
  (fun _ _ _ _ _ _ => ⟨fun _ _ _ _ _ _ => badK, fun D => D⟩)
  (fun id => ⟨fun _ _ _ _ ex _ => Be id ex, fun D => D⟩)
  (fun _ _ => ⟨fun _ _ _ _ _ _ => badK, fun D => D⟩)
  (fun _ => ⟨fun _ _ _ nrm _ _ => nrm, fun D => D⟩)
  (fun _ => ⟨fun _ _ _ _ _ _ => badK, fun D => D⟩)
  ⟨fun _ _ _ _ _ ret => ret, fun D => D⟩
  (fun _ => ⟨fun _ _ _ _ _ _ => badK, fun D => D⟩) c
structure RV where
 f:q9→S→(V→RO)→RO
def resC(r:ResultVar):Option RV:=
 match r with
 | .tmp t=>(match gv (α:=Unit) loc 0 [] (.tmp t)with|some ⟨g⟩=>some ⟨fun e s K=>qK (g () e) K⟩|none=>none)
 | .cell a t=>(match gv (α:=Unit) loc 0 [] (.tmp a),qy P t with|some ⟨g⟩,some (gg,sz)=>bif gg||Nat.beq sz 1 then some ⟨fun e s K=>z3 gg sz s.m (g () e) fun v=>qK v K⟩else none|_,_=>none)
structure RL where
 f:q9→S→(List V→RO)→RO
def resL:List ResultVar→Option RL
 |[]=>some ⟨fun _ _ K=>K []⟩
 |r::l=>match resC P loc r,resL l with
  |some ⟨g⟩,some ⟨h⟩=>some ⟨fun e s K=>g e s fun v=>h e s fun l=>K (v::l)⟩
  |_,_=>none
def retC{γ:Type}(l:List ResultVar):CK γ:=
 match l with
 |[r]=>(match resC P loc r with|some ⟨g⟩=>⟨fun _ e s=>g e s fun v=> .ok v s⟩|none=>badK)
 |l=>(match resL P loc l with|some ⟨g⟩=>⟨fun _ e s=>g e s fun l=> .ok (.tu l) s⟩|none=>badK)
structure FnC where
 g:Rc→Row→Nat→S→RO
def qI:Row:=⟨.und,.und,.und,.und,.und,.und,.und,.und,.und,.und,.und,.und,.und,.und,.und,.und⟩
def rowL(w:Row):Nat→List V:=fun n=>[w.c0,w.c1,w.c2,w.c3,w.c4,w.c5,w.c6,w.c7,w.c8,w.c9,w.c10,w.c11,w.c12,w.c13,w.c14,w.c15].take n
end
def Kg:RG Rc:=⟨fun c f w n s=>c.call f w n s⟩
def fnC(P:Program)(pr:vw)(tb:FuncId→Nat)(f:FuncId):FnC:=
 match pr f with
 |some g=>⟨fun _ w n s=> @Bool.rec (fun _=>RO) (.no [17]) (roK (g (rowL w n) s) fun v s=>qF v fun v=> .ok v s) (Nat.ble n 16)⟩
 |none=>(match P.funcs[f]? with
  |some fn=>(match fn.body with
   |some c=>bif jz fn.ntmps c&&B2 fn then(match retC P (tb f) fn.results.toList with
    |ret=>(match(fden P pr (tb f) c).d Rc Kg (2^fn.params.size-1) ret [] ret with
     |⟨run⟩=>⟨fun rc w n s=> @Bool.rec (fun _=>RO) (.no [17]) (run rc ⟨w,qI,qI,qI,qI,qI,qI,qI,qI,qI,qI,qI,qI,qI,qI,qI⟩ s) (ja (Nat.ble n (Nat.min 16 fn.ntmps)) (Nat.ble fn.params.size n))⟩))else⟨fun _ _ _ _=> .no [100]⟩
   |none=>⟨fun _ _ _ _=> .no [100]⟩)
  |none=>⟨fun _ _ _ _=> .no [100]⟩)
def wg(P:Program)(pr:vw)(tb:FuncId→Nat)(n:Nat):Rc:= @Nat.rec (fun _=>Rc) ⟨fun _ _ _ _=> .no [14]⟩ (fun _ ih=>⟨fun f w n s=>(fnC P pr tb f).g ih w n s⟩) n
end
noncomputable section
section
variable {D:List Int} {P:Program}
theorem Fj{E:Env}{σ:FS}{a:Act}{w:World}{H:Heap}{β:Bm}{e:q9}{m:qM}(h:RepF E σ a w H β){x:Operand}(hx:qa e x≠ .und)(hσ: ∀t,x= .tmp t→σ (2*t)=qm D e m (2*t)):
  (qe D (qa e x)).sat β H (a.eval x):=by
 cases x with
 |tmp t=>
  have h1:=hσ t rfl
  rw[qA]at h1
  have hne:slot e t≠ .und:=hx
  have hav: ∃av,(slot e t).av D=some av:=by
   rcases V.av_or (D:=D) (slot e t)with e1|⟨l,e1⟩|e1
   ·exact absurd e1 hne
   ·rw[e1];exact⟨_,rfl⟩
   ·exact⟨_,e1⟩
  obtain⟨av,hav⟩:=hav
  rw[hav]at h1
  obtain⟨v,hv,hs⟩:=h.slot t av h1
  have:a.eval (.tmp t)=v:=by simp[Act.eval,Array.getD_eq_getD_getElem?,hv]
  rw[this]
  show(qe D (slot e t)).sat β H v
  rw[qe,hav];exact hs
 |const v=>
  have hne:jC v≠ .und:=hx
  obtain⟨h1,h2⟩:=zH (D:=D) hne β H
  show(qe D (jC v)).sat β H v
  rw[zq h1];exact h2
 |func f=>exact⟨rfl,rfl⟩
 |global g=>exact absurd rfl hx
theorem Hf{e:q9}(h: ∀t,(slot e t).ok)(x:Operand):(qa e x).ok:=by
 cases x with
 |tmp t=>exact h t
 |const v=>
  show(jC v).ok
  by_cases hne:jC v= .und
  ·rw[hne];trivial
  ·exact V.okC_ok (zH (D:=[]) hne (fun _=>none) (fun _=>none)).1
 |func f=>exact rfl
 |global g=>trivial
theorem Jc{α β:Type}{f:α→β}: ∀{l:List α}{p:α×β},p∈List.zip l (l.map f)→p.1∈l∧p.2=f p.1
 |[],p,h=>by simp at h
 |a::l,p,h=>by
  simp only[q1g,List.zip_cons_cons]at h
  rcases q1i.1 h with rfl|h
  ·exact⟨q1k,rfl⟩
  ·obtain⟨h1,h2⟩:=Jc h;exact⟨q1j _ h1,h2⟩
theorem AL{t:Nat}: ∀{l:List Operand},Operand.tmp t∈l→2*t∈j7 l
 |[],h=>by simp at h
 |x::l,h=>by
  rcases q1i.1 h with e|h
  ·subst e;simp[j7]
  ·have:=AL h
   cases x<;>simp[j7,this]
def apM(D:List Int)(m:qM)(d:Key):KR→qM
 | .wr _ _ k b=>mset m k (some b)
 | .nw _ _ b=>mset m d (some b)
 | .mv _ _ k b=>mset (mset m k none) d (some b)
 |_=>m
theorem lwM{m:qM}{d:Key}{r:KR}(hr: ∀v ks k b,r= .mv v ks k b→k≠d)(n:Nat):
  (match look (lw D d r) n with|some x=>x.map XV.bl|none=>(mblk m n).map fun b=>XV.bl (b.blk D))=(mblk (apM D m d r) n).map fun b=> .bl (b.blk D):=by
 cases r with
 |bad=>rfl
 |val v ks=>rfl
 |wr v ks k b=>
  simp only[lw,apM,look,Gv]
  by_cases e:n=k.num
  ·subst e;simp
  ·rw[if_neg e,je (fun h=>e h.symm)];rfl
 |nw v ks b=>
  simp only[lw,apM,look,Gv]
  by_cases e:n=d.num
  ·subst e;simp
  ·rw[if_neg e,je (fun h=>e h.symm)];rfl
 |mv v ks k b=>
  have hkd:=hr v ks k b rfl
  simp only[lw,apM,look,Gv]
  by_cases e:n=d.num
  ·subst e
   have:k.num≠d.num:=fun h=>hkd (Key.num_inj h)
   rw[je this];simp
  ·rw[if_neg e]
   by_cases e2:n=k.num
   ·subst e2;simp
   ·rw[if_neg e2,je (fun h=>e2 h.symm),je (fun h=>e h.symm)];rfl
theorem GK{e:q9}{m:qM}{d:Key}{r:KR}{dst:Option Tmp}{v:V}(hv:v≠ .und)(hd: ∀t,dst=some t→t<256)(hr: ∀v ks k b,r= .mv v ks k b→k≠d):
  (qm D e m).upd (Wof dst (qe D v) (lw D d r))=qm D (ji e dst v) (apM D m d r):=by
 have hav:v.av D=some (qe D v):=by
  rcases V.av_or (D:=D) v with e1|⟨l,e1⟩|e1
  ·exact absurd e1 hv
  ·rw[e1];rfl
  ·rw[qe,e1];rfl
 funext ℓ
 rcases q1O ℓ with h|h
 ·obtain⟨t,rfl⟩: ∃t,ℓ=2*t:=⟨ℓ/2,by omega⟩
  simp only[FS.upd,jI]
  rw[qA,qA]
  cases dst with
  |none=>simp[ji]
  |some d'=>
   show(match(if some d'=some t then some (some (XV.av (qe D v)))else none)with|some v=>v|none=>_)=((slot (eset e d' v) t).av D).map .av
   rw[BZ v (hd d' rfl)]
   by_cases e1:t=d'
   ·subst e1;simp[hav]
   ·have e2: ¬(some d':Option Tmp)=some t:=fun h=>e1 (Option.some.inj h).symm
    rw[if_neg e2,if_neg e1]
 ·obtain⟨k,rfl⟩: ∃k,ℓ=2*k+1:=⟨ℓ/2,by omega⟩
  simp only[FS.upd,jO]
  rw[qh,qh,←lwM (D:=D) hr k]
  cases look (lw D d r) k<;>rfl
theorem jH{e:q9}{m:qM}{k:Key}{b:KB}(h:mget m k=some b):qm D e m (2*k.num+1)=some (.bl (b.blk D)):=by
 rw[qh,v7,h];rfl
def gslK(all:List Oper)(g:Option (Nat×Bool)):List Nat:=
 match g with
 |none=>[]
 |some (j,_)=>match(all[j]?).bind (·.dst)with
  |some t=>[2*t]
  |none=>[]
theorem F9{E:Env}{σ:FS}{a:Act}{w:World}{H:Heap}{β:Bm}{e:q9}{m:qM}{ops:Array Oper}{o:Oper}{g:Bool}(h:RepF E σ a w H β)
  (hg:jf ops.toList e o.guard=some g)(hσ: ∀ℓ∈gslK ops.toList o.guard,σ ℓ=qm D e m ℓ):Region.wanted o (yielded ops a.tmps)=g:=by
 unfold jf at hg
 unfold Region.wanted
 split at hg
 ·rename_i e1
  rw[e1];simp only[q27]at hg;exact hg
 ·rename_i j w e1
  rw[e1]at hσ⊢
  simp only at hσ⊢
  have hy:yielded ops a.tmps j=(match((ops.toList[j]?).bind (·.dst)).bind (a.tmps[·]?)with|some (.bool b)=>some b|_=>none):=by
   unfold yielded;simp only[Array.getElem?_toList];rfl
  rw[hy]
  split at hg
  ·rename_i t ht
   rw[ht]
   simp only[Option.bind_some]
   have h1:σ (2*t)=qm D e m (2*t):=hσ _ (by unfold gslK;simp only[ht];exact q1k)
   rw[qA]at h1
   split at hg
   ·rename_i b hb
    rw[hb]at h1
    obtain⟨v,hv,hs⟩:=h.slot t _ h1
    obtain⟨rfl,_⟩:=hs
    rw[hv]
    cases b<;>cases w<;>simp at hg⊢ <;>exact hg
   ·rename_i hb
    rw[hb]at h1
    obtain⟨v,hv,arr,rfl,hs⟩:=h.slot t _ h1
    rw[hv]
    simp only[q27]at hg
    subst hg;rfl
   ·cases hg
  ·rename_i ht
   rw[ht]
   simp only[Option.bind_none]
   simp only[q27]at hg
   subst hg;rfl
theorem Jw{E:Env}{ops:Array Oper}{i:Nat}{o:Oper}{e:q9}{m:qM}{lo hi:Nat}(ho:ops[i]?=some o)(hg:jf ops.toList e o.guard=some false)(hd: ∀t,o.dst=some t→t<E.n):
  GoodK P E ops i ⟨gslK ops.toList o.guard,Wof o.dst (qe D (.tu [])) [],[],[],none⟩ noAl lo hi (qm D e m):=by
 intro σ hs hσ a w H β K Q hrep hdom hK
 have hσ': ∀ℓ∈gslK ops.toList o.guard,σ ℓ=qm D e m ℓ:=fun ℓ hℓ=>by
  rcases hσ ℓ hℓ with h|⟨x,hx,_⟩
  ·exact h
  ·exact hx.elim
 have hw:=F9 (D:=D) hrep hg hσ'
 unfold wpOp
 rw[ho]
 simp only[hw,q0R,if_false]
 refine hK _ w H β ?_ (fun _ _=>rfl)
 refine RepF.step (kin:=[]) (Lw:=[]) hrep (v:=undef) (by simpa[kwOf,qt,jg]using Step.refl hrep.hon) (A3 _ _) (fun k b hb=>by simp at hb) (fun p hp=>by simp at hp) (fun k hk=>by simp[jg]at hk) (fun k hk=>by simp[qt]at hk) hd
theorem Wu{σ:FS}{E:Env}{a:Act}{w:World}{H:Heap}{β:Bm}(h:RepF E σ a w H β)(hs:Str σ){k:Nat}(hk:β k=none){ℓ:Nat}{x:XV}(hx:σ ℓ=some x):x.men k=false:=by
 cases hm:x.men k with
 |false=>rfl
 |true=>
  exfalso
  rcases q1O ℓ with h1|h1
  ·obtain⟨t,rfl⟩: ∃t,ℓ=2*t:=⟨ℓ/2,by omega⟩
   cases x with
   |av av=>
    obtain⟨v,_,hv⟩:=h.slot t av hx
    exact(hs _ _ hx).2 β H v k hv hm hk
   |bl b=>have:=(hs _ _ hx).1;omega
  ·obtain⟨q,rfl⟩: ∃q,ℓ=2*q+1:=⟨ℓ/2,by omega⟩
   cases x with
   |av av=>have:=(hs _ _ hx).1;omega
   |bl b=>exact(hs _ _ hx).2.1 β w H q k (h.blk q b hx) hm hk
theorem LF{kin:List (Nat×Blk)}{n:Nat}:(look kin n).isSome=true↔n∈kin.map (·.1):=by
 induction kin with
 |nil=>simp[look]
 |cons p r ih=>
  obtain⟨q,b⟩:=p
  simp only[look,q1g,q1i]
  by_cases e:q=n
  ·subst e;simp
  ·rw[je e];simp only[cond_false,ih]
   constructor
   ·exact .inr
   ·rintro(h|h)
    ·exact absurd h.symm e
    ·exact h
theorem Lp {E : Env} {ops : Array Oper} {i : Nat} {o : Oper} {e : q9} {m : qM} {d : Key} {r : KR} {al : Nat → XV → Prop} {hi : Nat} (ho : ops[i]? = some o) (hg : jf ops.toList e o.guard = some true) (hd : ∀ t, o.dst = some t → t < E.n)
  (hal : ∀ ℓ x, al ℓ x → ℓ % 2 = 1) (hne : ∀ x ∈ o.op.operands.toList, qa e x ≠ .und) (hks : ∀ p ∈ r.ks, mget m p.1 = some p.2) (hgood : r.good r.ks) (hfr : mget m d = none)
  (hop : ∀ kin : List (Nat × Blk), kin.map (·.1) = r.ks.map (·.1.num) → (∀ p ∈ kin, qm D e m (2 * p.1 + 1) = some (.bl p.2) ∨ al (2 * p.1 + 1) (XV.bl p.2)) →
   OpK P o.op o.type (List.zip o.op.operands.toList (o.op.operands.toList.map fun x => qe D (qa e x))) kin (qe D r.res) (lw D d r) d.num)
  (hhi : (∃ v ks b, r = .nw v ks b) ∨ (∃ v ks k b, r = .mv v ks k b) → d.num < hi) (hKs : ∀ k ∈ E.Ks, k < d.num) :
  GoodK P E ops i ⟨gslK ops.toList o.guard ++ j7 o.op.operands.toList ++ r.ks.map (fun p => 2 * p.1.num + 1), Wof o.dst (qe D r.res) (lw D d r), [], [], none⟩ al d.num hi (qm D e m) := by
 intro σ hs hσ a w H β K Q hrep hdom hK
 have hsl : ∀ t, (2 * t ∈ gslK ops.toList o.guard ∨ 2 * t ∈ j7 o.op.operands.toList) → σ (2 * t) = qm D e m (2 * t) := fun t ht => by
  rcases hσ (2 * t) (by simp only [q1h]; exact .inl ht) with h | ⟨x, hx, _⟩
  ·exact h
  ·have := hal _ _ hx; omega
 have hgs : ∀ ℓ ∈ gslK ops.toList o.guard, σ ℓ = qm D e m ℓ := fun ℓ hℓ => by
  have h2 : ∃ t, ℓ = 2 * t := by
   unfold gslK at hℓ
   split at hℓ
   ·simp at hℓ
   ·split at hℓ
    ·simp at hℓ; exact ⟨_, hℓ⟩
    ·simp at hℓ
  obtain ⟨t, rfl⟩ := h2
  exact hsl t (.inl hℓ)
 have hw := F9 (D := D) hrep hg hgs
 unfold wpOp
 rw [ho]
 simp only [hw, if_true]
 refine .inl ?_
 -- the blocks that are there
 have hpick : ∀ ks : List (Key × KB), (∀ p ∈ ks, p ∈ r.ks) → ∃ kin : List (Nat × Blk), kin.map (·.1) = ks.map (·.1.num) ∧ ∀ p ∈ kin, σ (2 * p.1 + 1) = some (.bl p.2) ∧ (qm D e m (2 * p.1 + 1) = some (.bl p.2) ∨ al (2 * p.1 + 1) (XV.bl p.2)) := by
  intro ks
  induction ks with
  | nil => intro _; exact ⟨[], rfl, fun p hp => by simp at hp⟩
  | cons q ks ih =>
   intro hsub
   obtain ⟨kin, h1, h2⟩ := ih fun p hp => hsub p (q1j _ hp)
   have hq := hsub q q1k
   have hb := jH (D := D) (e := e) (hks q hq)
   rcases hσ (2 * q.1.num + 1) (by simp only [q1h, List.mem_map]; exact .inr ⟨q, hq, rfl⟩) with h | ⟨x, hx, h⟩
   ·refine ⟨(q.1.num, q.2.blk D) :: kin, by simp [h1], fun p hp => ?_⟩
    rcases q1i.1 hp with rfl | hp
    ·exact ⟨by rw [h, hb], .inl hb⟩
    ·exact h2 p hp
   ·have hty := hs _ _ h
    cases x with
    | av x => have := hty.1; omega
    | bl x =>
     refine ⟨(q.1.num, x) :: kin, by simp [h1], fun p hp => ?_⟩
     rcases q1i.1 hp with rfl | hp
     ·exact ⟨h, .inr hx⟩
     ·exact h2 p hp
 obtain ⟨kin, hk1, hk2⟩ := hpick r.ks fun p hp => hp
 have hdn : d.num ∉ kin.map (·.1) := by
  rw [hk1]
  intro h
  obtain ⟨p, hp, e1⟩ := List.mem_map.1 h
  have := hks p hp
  rw [Key.num_inj e1, hfr] at this; cases this
 have hlookd : look kin d.num = none := by
  cases hq : look kin d.num with
  | none => rfl
  | some x => exact absurd (LF.1 (by rw [hq]; rfl)) hdn
 have hkey : ∀ k b', (k, b') ∈ r.ks → (look kin k.num).isSome = true := fun k b' hkb => LF.2 (by rw [hk1]; exact List.mem_map.2 ⟨_, hkb, rfl⟩)
 have hkn : ∀ k ∈ qt kin (lw D d r), k = d.num ∧ ((∃ v ks b, r = .nw v ks b) ∨ (∃ v ks k b, r = .mv v ks k b)) := by
  intro k hk
  simp only [qt, q1l, List.mem_map] at hk
  obtain ⟨⟨p, ⟨hp, hps⟩, rfl⟩, hn⟩ := hk
  cases r with
  | bad => simp [lw] at hp
  | val v ks => simp [lw] at hp
  | wr v ks k b =>
   simp [lw] at hp
   subst hp
   obtain ⟨_, b', hb'⟩ := hgood
   have := hkey k b' hb'
   simp only [Option.isNone_iff_eq_none] at hn
   rw [hn] at this; cases this
  | nw v ks b =>
   simp [lw] at hp
   subst hp
   exact ⟨rfl, .inl ⟨_, _, _, rfl⟩⟩
  | mv v ks k b =>
   simp [lw] at hp
   rcases hp with rfl | rfl
   ·simp at hps
   ·exact ⟨rfl, .inr ⟨_, _, _, _, rfl⟩⟩
 have hdnone : qt kin (lw D d r) ≠ [] → β d.num = none := fun h => by
  obtain ⟨k, hk⟩ := List.exists_mem_of_ne_nil _ h
  obtain ⟨e1, e2⟩ := hkn k hk
  exact hdom d.num (q1G _) (hhi e2)
 refine hop kin hk1 (fun p hp => (hk2 p hp).2) o.dst o.pos o.after o.guard a w H β K Q ?_ ?_ ?_ hrep.hon hdnone ?_
 ·intro p hp
  obtain ⟨h1, h2⟩ := Jc hp
  rw [h2]
  refine Fj hrep (hne _ h1) fun t ht => hsl t (.inr ?_)
  exact AL (by rw [← ht]; exact h1)
 ·intro p hp
  exact ⟨hrep.blk _ _ (hk2 p hp).1, fun b c hb => ⟨(hrep.own _ _ b c (hk2 p hp).1 hb).1, (hrep.own _ _ b c (hk2 p hp).1 hb).2.1⟩⟩
 ·intro p hp p' hp' hne' b c c' hb
  exact hrep.inj _ _ _ _ b c c' (hk2 p hp).1 (hk2 p' hp').1 hne' hb
 ·intro v w' H' β' hst hR hL
  refine hK _ w' H' β' ?_ ?_
  ·refine RepF.step hrep hst hR hL (fun p hp => (hk2 p hp).1) ?_ ?_ hd
   ·intro k hk
    simp only [jg, List.mem_map, q1l] at hk
    obtain ⟨p, ⟨hp, hps⟩, rfl⟩ := hk
    cases r with
    | bad => simp [lw] at hp
    | val v ks => simp [lw] at hp
    | wr v ks k b => simp [lw] at hp; subst hp; simp at hps
    | nw v ks b => simp [lw] at hp; subst hp; simp at hps
    | mv v ks k b =>
     simp [lw] at hp
     rcases hp with rfl | rfl
     ·obtain ⟨_, b', hb'⟩ := hgood
      exact ⟨hkey k b' hb', by simp [lw, look]⟩
     ·simp at hps
   ·intro k hk
    obtain ⟨e1, e2⟩ := hkn k hk
    subst e1
    refine ⟨fun h => ?_, fun ℓ x hx _ => Wu hrep hs (hdom _ (q1G _) (hhi e2)) hx⟩
    have := hKs _ h; omega
  ·intro k hk
   refine hst.beta k fun h => ?_
   obtain ⟨e1, e2⟩ := hkn k h
   subst e1
   rcases hk with hk | hk
   ·omega
   ·have := hhi e2; omega
end
end
noncomputable section
section
variable {D:List Int} {P:Program} {m:qM} {d:Key} {ty:TypeId}
theorem QA{w:World}{b off s j n c:Nat}{T:TypeId}{fz:Nat×Nat}{arr:Array Value}(hw:w.heap[b]?=some (.cells arr T fz))(hl:off+j*s≤arr.size):
  (Builtin.firstCells s j (.slice (some ⟨b,off,none⟩) n c)).run P w= .ok ((arr.toList.drop off).take (j*s)).toArray w:=by
 have hV:((arr.toList.drop off).take (j*s)).length=j*s:=by simp;omega
 have:=run_loadCells_list (P:=P) w ⟨b,off,none⟩ ((arr.toList.drop off).take (j*s)) (by
  intro i v hv
  rw[jm,Bp hw]
  have hi:i<j*s:=by
   rcases q1K i (j*s)with h'|h'
   ·exact h'
   ·rw[q17 (by omega)]at hv;cases hv
  rw[q18 hi,q15]at hv
  simpa using hv)
 rw[hV]at this
 simp only[Builtin.firstCells,this]
theorem bleF{a b:Nat}(h:Nat.ble a b=false): ¬a≤b:=fun h'=>by rw[Nat.ble_eq_true_of_le h']at h;cases h
theorem GG{es n:Nat}{q:Sq V}{kb:KB}{k:Nat}{β:Bm}{w:World}{H:Heap}(hkb:kb= .arr es n q∨kb= .gro es n q)(h:(kb.blk D).rep β w H k):
  ∃b c arr T,β k=some (b,c)∧w.heap[b]?=some (.cells arr T (0,0))∧(flat D (Sq.toL .und q 0 n)).length≤arr.size∧Sats β H (flat D (Sq.toL .und q 0 n)) (arr.toList.take (flat D (Sq.toL .und q 0 n)).length)∨
   (β k=none∧flat D (Sq.toL .und q 0 n)=[]):=by
 have hr: ∀cs:List Atom,(Blk.rigid cs).rep β w H k→ ∃b c arr T,β k=some (b,c)∧w.heap[b]?=some (.cells arr T (0,0))∧cs.length≤arr.size∧Sats β H cs (arr.toList.take cs.length):=by
  rintro cs ⟨b,c,arr,T,h1,h2,h3⟩
  have:=Sats.length h3
  exact⟨b,c,arr,T,h1,h2,by simp at this;omega,by rw[this,q1s];exact h3⟩
 rcases hkb with rfl|rfl
 ·obtain⟨b,c,arr,T,h1,h2,h3,h4⟩:=hr _ h
  exact⟨b,c,arr,T,.inl ⟨h1,h2,h3,h4⟩⟩
 ·have h:(groB es (flat D (Sq.toL .und q 0 n))).rep β w H k:=h
  rcases Fo es (flat D (Sq.toL .und q 0 n))with e|e<;>rw[e]at h
  ·obtain⟨b,c,arr,T,h1,h2,h3,h4⟩:=hr _ h
   exact⟨b,c,arr,T,.inl ⟨h1,h2,h3,h4⟩⟩
  ·rcases h with⟨h1,h2⟩|⟨b,c,arr,T,h1,h2,_,h3,h4⟩
   ·exact⟨0,0,#[],0,.inr ⟨h1,h2⟩⟩
   ·exact⟨b,c,arr,T,.inl ⟨h1,h2,h3,h4⟩⟩
theorem B6{s:Nat}{v:V}{xs:List V}{ks:List (Key×KB)}(h:srcL m s v=some (xs,ks))(hm: ∀k b,mget m k=some b→b.ok):
  v.on=true∧okE s xs∧(∀p∈ks,mget m p.1=some p.2)∧ ∀(w:World)(H:Heap)(β:Bm)(yv:Value),(qe D v).sat β H yv→(∀p∈jT D ks,p.2.rep β w H p.1)→
   (Builtin.lenOf yv).run P w= .ok xs.length w∧ ∀j,j≤xs.length→ ∃arrx:Array Value,Sats β H (flat D (xs.take j)) arrx.toList∧arrx.size=j*s∧ ∀w':World,w'.heap=w.heap→(Builtin.firstCells s j yv).run P w'= .ok arrx w':=by
 have main: ∀{k:Key}{kb:KB}{es N lo n:Nat}{q:Sq V},kb= .arr es N q∨kb= .gro es N q→mget m k=some kb→lo+n≤N→es=s→okE s (Sq.toL .und q lo n)∧
   ∀(w:World)(H:Heap)(β:Bm)(b c c2:Nat),β k.num=some (b,c)→(kb.blk D).rep β w H k.num→
    (Builtin.lenOf (.slice (some ⟨b,lo*s,none⟩) n c2)).run P w= .ok (Sq.toL .und q lo n).length w∧ ∀j,j≤(Sq.toL .und q lo n).length→ ∃arrx:Array Value,Sats β H (flat D ((Sq.toL .und q lo n).take j)) arrx.toList∧arrx.size=j*s∧ ∀w':World,w'.heap=w.heap→(Builtin.firstCells s j (.slice (some ⟨b,lo*s,none⟩) n c2)).run P w'= .ok arrx w':=by
  intro k kb es N lo n q hkb hb hln hes
  subst hes
  have hbo:=hm k kb hb
  have hL:okE es (Sq.toL .und q 0 N):=by rcases hkb with rfl|rfl<;>exact hbo.2
  have hcut:((Sq.toL .und q 0 N).drop lo).take n=Sq.toL .und q lo n:=Mx _ _ hln
  refine⟨by rw[←hcut];exact wP (GA hL _) _,fun w H β b c c2 hβ hrep=>⟨by simp[Builtin.lenOf,Sq.toL_len],fun j hj=>?_⟩⟩
  rw[Sq.toL_len]at hj
  have hlen:=jE (D:=D) hL
  rw[Sq.toL_len]at hlen
  obtain⟨b',c',arr,T,h|h⟩:=GG hkb hrep
  ·obtain⟨h1,h2,h3,h4⟩:=h
   rw[hβ]at h1;cases h1
   have hfit:lo*es+j*es≤N*es:=by rw[←q1x];exact q1U _ (by omega)
   refine⟨((arr.toList.drop (lo*es)).take (j*es)).toArray,?_,by simp;omega,fun w' hw'=>QA (by rw[hw'];exact h2) (by omega)⟩
   have e1:flat D ((Sq.toL .und q lo n).take j)=((flat D (Sq.toL .und q 0 N)).drop (lo*es)).take (j*es):=by
    rw[Ex hL lo (by rw[Sq.toL_len];omega),Ey (GA hL lo) j (by rw[q1c,Sq.toL_len];omega),←hcut,q1v,q1L hj]
   have e2:(arr.toList.drop (lo*es)).take (j*es)=((arr.toList.take (flat D (Sq.toL .und q 0 N)).length).drop (lo*es)).take (j*es):=by
    rw[List.drop_take,q1v,q1L (by omega)]
   rw[e1]
   show Sats β H _ ((arr.toList.drop (lo*es)).take (j*es))
   rw[e2]
   exact(h4.drop _).take _
  ·rw[hβ]at h;cases h.1
 unfold srcL at h
 split at h
 ·cases h
  refine⟨rfl,fun x hx=>by simp at hx,fun p hp=>by simp at hp,fun w H β yv hy _=>?_⟩
  obtain⟨rfl,_⟩:=hy
  refine⟨by simp[Builtin.lenOf],fun j hj=>⟨#[],by simp[flat,Sats],by simp at hj;simp[hj],fun w' _=>by simp[Builtin.firstCells]⟩⟩
 ·rename_i k lo n c w0
  split at h
  ·rename_i es N q hb
   cases hc:Nat.beq w0 es&&Nat.beq es s&&Nat.ble (lo+n) N with
   |false=>rw[hc]at h;cases h
   |true=>
    rw[hc]at h
    simp only[q0Q]at hc
    have c1:=q1B hc.1.1
    have c2:=q1B hc.1.2
    have c3:lo+n≤N:=by simpa using hc.2
    cases h
    obtain⟨m1,m2⟩:=main (.inl rfl) hb c3 c2
    refine⟨rfl,m1,fun p hp=>by simp at hp;subst hp;exact hb,fun w H β yv hy hk=>?_⟩
    obtain⟨b,c',hβ,rfl⟩:=hy
    rw[c1,c2]
    exact m2 w H β b c' c hβ (hk (k.num,(KB.arr es N q).blk D) (by simp[jT]))
  ·cases h
 ·rename_i k lo n w0
  split at h
  ·rename_i es N q hb
   cases hc:Nat.beq w0 es&&Nat.beq es s&&Nat.ble (lo+n) N with
   |false=>rw[hc]at h;cases h
   |true=>
    rw[hc]at h
    simp only[q0Q]at hc
    have c1:=q1B hc.1.1
    have c2:=q1B hc.1.2
    have c3:lo+n≤N:=by simpa using hc.2
    cases h
    obtain⟨m1,m2⟩:=main (.inr rfl) hb c3 c2
    refine⟨rfl,m1,fun p hp=>by simp at hp;subst hp;exact hb,fun w H β yv hy hk=>?_⟩
    obtain⟨b,c',hβ,hc',rfl⟩:=hy
    rw[c1,c2]
    exact m2 w H β b c' (c'-lo) hβ (hk (k.num,(KB.gro es N q).blk D) (by simp[jT]))
  ·cases h
 ·cases h
structure AppSrc (P:Program) (ts tx ty:TypeId) (yv:Value) (w:World) (s bytes m:Nat) (arrx:Array Value):Prop where
 room: ∀(base:Option Addr)(n cap:Nat),n+m≤cap→(Builtin.append_ #[ts,tx] ty #[.slice base n cap,yv]).run P w=
  (match base with|some p=>(storeCells (p.add (n*s)) arrx.toList).run P w|none=> .ok () w).andThen fun _ w'=> .ok (.slice base (n+m) cap) w'
 new: ∀(base:Option Addr)(n cap:Nat)(arro:Array Value),(∀w':World,w'.heap=w.heap→(Builtin.firstCells s n (.slice base n cap)).run P w'= .ok arro w')→ ¬n+m≤cap→(2*(n+m)+1000)*bytes≤281474976710656→
  ∃(c:Nat)(w1:World)(e:TypeId)(zc:Array Value),n+m≤c∧w1.heap=w.heap∧w1.os=w.os∧w1.tape=w.tape∧w1.output=w.output∧zc.size=s∧
   (Builtin.append_ #[ts,tx] ty #[.slice base n cap,yv]).run P w= .ok (.slice (some ⟨w.heap.size,0,none⟩) (n+m) c) (w1.alloc (.cells (arro++arrx++Builtin.zeroCells zc (c-(n+m))) e))
theorem JL{n m cap bytes:Nat}(hr: ¬n+m≤cap)(hb:(2*(n+m)+1000)*bytes≤281474976710656): ¬Builtin.nextslicecap (n+m) cap*bytes>2^48:=by
 have:=Ra (n+m) cap (by omega)
 have h3:Builtin.nextslicecap (n+m) cap*bytes≤(2*(n+m)+1000)*bytes:=q1U _ this
 omega
theorem KN {ts tx e ex : TypeId} {i : TypeInfo} {z : Value} {yv : Value} {w : World} {m : Nat} {arrx : Array Value} (h1 : P.underlying ts = some (.slice e)) (h2 : P.info? e = some i) (hz : i.zero = some z) (hzs : z.cells.size = i.size)
  (hby : 0 < i.bytes) (htx : P.underlying tx = some (.slice ex)) (hl : (Builtin.lenOf yv).run P w = .ok m w) (hf : ∀ w' : World, w'.heap = w.heap → (Builtin.firstCells i.size m yv).run P w' = .ok arrx w') : AppSrc P ts tx ty yv w i.size i.bytes m arrx :=
 ⟨fun base n cap hr => Ai h1 h2 htx hl (hf w rfl) hr, fun base n cap arro ho hr hb => by
  obtain ⟨c, w1, a1, a2, a3, a4, a5, a6⟩ := Dd (P := P) (ty := ty) h1 h2 hz htx hl hf ho hr (by omega) (JL hr hb)
  exact ⟨c, w1, e, z.cells, a1, a2, a3, a4, a5, hzs, a6⟩⟩
theorem KO{ts tx e:TypeId}{i:TypeInfo}{z:Value}{w:World}{k k':IntKind}{m:Nat}(h1:P.underlying ts=some (.slice e))(h2:P.info? e=some i)(hz:i.zero=some z)(hzs:z.cells.size=i.size)(hs:0<i.size)
  (hby:0<i.bytes)(htx:P.underlying tx=some (.int k))(hm:m<1000000)(hmb:m*i.bytes≤281474976710656):AppSrc P ts tx ty (.int k' m) w i.size i.bytes m (Builtin.zeroCells z.cells m):=by
 have hw:IntKind.i64.wrap (m:Int)=(m:Int):=Ba (by omega)
 have hneg: ¬((m:Int)<0):=by omega
 have hbig: ¬((m:Int)*(i.bytes:Int)>2^48):=by
  have:(m:Int)*i.bytes≤281474976710656:=by rw[←q0T];exact Int.ofNat_le.2 hmb
  omega
 have hsrc: ∀w':World,(if m*i.size=0 then(pure #[]:Sem (Array Value))else do pure (Builtin.zeroCells (←zeroValue e).cells m)).run P w'= .ok (Builtin.zeroCells z.cells m) w':=by
  intro w'
  by_cases h0:m*i.size=0
  ·have:m=0:=by
    rcases Nat.mul_eq_zero.1 h0 with h|h
    ·exact h
    ·omega
   subst this
   simp[Builtin.zeroCells]
  ·simp only[h0,if_false,q2a,jd h2 hz,q29,q2b]
 refine⟨fun base n cap hr=>?_,fun base n cap arro ho hr hb=>?_⟩
 ·simp only[Builtin.append_,q19,q14,q13,q2a,qd h1,qd htx,q29,qY h2,q2b,if_true,asInt,asIntOf,hw,hneg,if_false,vn h2,hbig,q0V,hr,Bool.not_true,q0R,hsrc]
  cases base<;>simp
 ·refine⟨(Question.appendCap (n+m) cap e).cut (w.tape w.drawn (.appendCap (n+m) cap e)),{w with drawn:=w.drawn+1},e,z.cells,by simp[Question.cut],rfl,rfl,rfl,rfl,hzs,?_⟩
  have ho':=ho {w with drawn:=w.drawn+1} rfl
  have hnb:=JL hr hb
  have hneed: ¬(((n+m:Nat):Int)>IntKind.i64.max):=by
   have h3:2*(n+m)+1000≤(2*(n+m)+1000)*i.bytes:=Nat.le_mul_of_pos_right _ hby
   have:IntKind.i64.max=9223372036854775807:=by decide
   rw[this];omega
  simp only[Builtin.append_,q19,q14,q13,q2a,qd h1,qd htx,q29,qY h2,q2b,if_true,asInt,asIntOf,hw,hneg,if_false,vn h2,hbig,q0V,hr,Bool.not_true,q0R,hneed,false_and,hnb,run_choose,Question.forced,run_askRoom,ho',hsrc,jd h2 hz,newRow,run_newObj]
  rfl
theorem N3{ts tx:TypeId}{s b:Nat}{v:V}{xs:List V}{ks:List (Key×KB)}(hb:elB P ts=some (s,b))(hs:0<s)(hby:0<b)(hz:zOk P ts s=true)(h:KM P ts tx m s b v=some (xs,ks))(hm: ∀k b,mget m k=some b→b.ok):
  v.on=true∧okE s xs∧(∀p∈ks,mget m p.1=some p.2)∧ ∀(w:World)(H:Heap)(β:Bm)(yv:Value),(qe D v).sat β H yv→(∀p∈jT D ks,p.2.rep β w H p.1)→
   ∃arrx:Array Value,Sats β H (flat D xs) arrx.toList∧arrx.size=xs.length*s∧AppSrc P ts tx ty yv w s b xs.length arrx:=by
 have hsl: ∀v,(@Bool.rec (fun _=>Option (List V×List (Key×KB))) none (srcL m s v) (jo P tx))=some (xs,ks)→v.on=true∧okE s xs∧(∀p∈ks,mget m p.1=some p.2)∧ ∀(w:World)(H:Heap)(β:Bm)(yv:Value),(qe D v).sat β H yv→(∀p∈jT D ks,p.2.rep β w H p.1)→
   ∃arrx:Array Value,Sats β H (flat D xs) arrx.toList∧arrx.size=xs.length*s∧AppSrc P ts tx ty yv w s b xs.length arrx:=by
  intro v h
  cases hi:jo P tx with
  |false=>rw[hi]at h;cases h
  |true=>
   rw[hi]at h
   obtain⟨a1,a2,a3,a4⟩:=B6 (D:=D) (P:=P) h hm
   refine⟨a1,a2,a3,fun w H β yv hy hk=>?_⟩
   obtain⟨b1,b2⟩:=a4 w H β yv hy hk
   obtain⟨arrx,c1,c2,c3⟩:=b2 _ (q1G _)
   rw[q1s]at c1
   unfold jo at hi
   split at hi
   ·rename_i ex htx
    unfold zOk at hz
    split at hz
    ·rename_i z hez
     obtain⟨e,i,h1,h2,rfl,rfl⟩:=za hb
     obtain⟨e',i',zv,h1',h2',hz',rfl⟩:=zr hez
     rw[h1]at h1';cases h1'
     rw[h2]at h2';cases h2'
     exact⟨arrx,c1,c2,KN h1 h2 hz' (q1B hz) hby htx b1 c3⟩
    ·cases hz
   ·cases hi
 unfold KM at h
 split at h
 ·rename_i kk n
  cases hc:(intK P tx).isSome&&!isU (elV P ts)&&Nat.beq (elV P ts).size s&&Nat.blt n 1000000&&Nat.ble (n*b) 281474976710656 with
  |false=>rw[hc]at h;cases h
  |true=>
   rw[hc]at h
   cases h
   simp only[q0Q,q0S]at hc
   obtain⟨⟨⟨⟨c1,c2⟩,c3⟩,c4⟩,c5⟩:=hc
   have c3:=q1B c3
   have c4:n<1000000:=by simpa using c4
   have c5:n*b≤281474976710656:=by simpa using c5
   obtain⟨z,hez,hzs,hzo,hzc⟩:=Dw (D:=D) hb (vK c2) c3
   obtain⟨e,i,h1,h2,rfl,rfl⟩:=za hb
   obtain⟨e',i',zv,h1',h2',hz',rfl⟩:=zr hez
   rw[h1]at h1';cases h1'
   rw[h2]at h2';cases h2'
   have htx: ∃k,P.underlying tx=some (.int k):=by
    unfold intK at c1
    split at c1
    ·rename_i k hk;exact⟨k,hk⟩
    ·cases c1
   obtain⟨k,htx⟩:=htx
   refine⟨rfl,fun x hx=>by rw[(List.mem_replicate.1 hx).2];exact⟨hzo,c3⟩,fun p hp=>by simp at hp,fun w H β yv hy _=>?_⟩
   obtain⟨rfl,_⟩:=hy
   rw[List.length_replicate]
   refine⟨Builtin.zeroCells zv.cells n,?_,by rw[Bc,hzs],KO h1 h2 hz' hzs hs hby htx c4 c5⟩
   have:=vF hzs (hzc β H) n
   unfold Builtin.zeroCells
   rw[hzs];rw[hzs]at this;exact this
 ·exact hsl _ h
theorem Ga{ts tx:TypeId}{x y:Operand}{dst:Option Tmp}{pos:String}{after:Array Edge}{guard:Option (Nat×Bool)}{a:Act}{w:World}{r:Result Value}(h:(Builtin.append_ #[ts,tx] ty #[a.eval x,a.eval y]).run P w=r):
  (execOp a.eval ⟨dst,.call {callee:= .builtin .append,args:= #[x,y],argTypes:= #[ts,tx]},ty,pos,after,guard⟩).run P w=r.andThen fun v w'=> .ok (.value v) w':=by
 subst h
 have hargs:(#[x,y]:Array Operand).map a.eval= #[a.eval x,a.eval y]:=by simp
 simp only[execOp,resolve,q2a,q2b,q29,invoke,builtin,hargs]
theorem KP {ts tx : TypeId} {x y : Operand} {dst : Option Tmp} {pos : String} {after : Array Edge} {guard : Option (Nat × Bool)} {a : Act} {w : World} {s bytes m n b off cap : Nat} {arr arrx : Array Value} {T : TypeId}
  (ha : AppSrc P ts tx ty (a.eval y) w s bytes m arrx) (hx : a.eval x = .slice (some ⟨b, off, none⟩) n cap) (hroom : n + m ≤ cap) (hw : w.heap[b]? = some (.cells arr T (0, 0))) (hone : ∀ v ∈ arrx.toList, v.oneC = true) (hsz : arrx.size = m * s)
  (hfit : off + n * s + m * s ≤ arr.size) : ∃ w', (execOp a.eval ⟨dst, .call { callee := .builtin .append, args := #[x, y], argTypes := #[ts, tx] }, ty, pos, after, guard⟩).run P w = .ok (.value (.slice (some ⟨b, off, none⟩) (n + m) cap)) w' ∧
   SetArr w b (spl arr.toList (off + n * s) arrx.toList).toArray T w' := by
 obtain ⟨w', hst, hset⟩ := vH (P := P) arrx.toList (off + n * s) 0 w arr hw hone (by simp; omega)
 refine ⟨w', ?_, hset⟩
 have hrun := ha.room (some ⟨b, off, none⟩) n cap hroom
 simp only [jm] at hrun
 rw [hst, ← hx] at hrun
 rw [Ga hrun]; rfl
theorem Np{ts tx:TypeId}{x y:Operand}{dst:Option Tmp}{pos:String}{after:Array Edge}{guard:Option (Nat×Bool)}{a:Act}{w:World}{H:Heap}{β:Bm}{s bytes m n cap d:Nat}{base:Option Addr}{arro arrx:Array Value}{cso csx:List Atom}
  (ha:AppSrc P ts tx ty (a.eval y) w s bytes m arrx)(hx:a.eval x= .slice base n cap)(hroom: ¬n+m≤cap)(hbig:(2*(n+m)+1000)*bytes≤281474976710656)(hsz:arrx.size=m*s)(hszo:arro.size=n*s)
  (ho: ∀w':World,w'.heap=w.heap→(Builtin.firstCells s n (.slice base n cap)).run P w'= .ok arro w')(hso:Sats β H cso arro.toList)(hsx:Sats β H csx arrx.toList)(hstr: ∀a∈cso++csx,AStr a)(hd:β d=none)(hon:Heap.On H w)(hne:cso++csx≠[]):
  ∃c w',(execOp a.eval ⟨dst,.call {callee:= .builtin .append,args:= #[x,y],argTypes:= #[ts,tx]},ty,pos,after,guard⟩).run P w= .ok (.value (.slice (some ⟨w.heap.size,0,none⟩) (n+m) c)) w'∧n+m≤c∧
   Step w H β [] [d] [] w' H (β.set d (some (w.heap.size,c)))∧(groB s (cso++csx)).rep (β.set d (some (w.heap.size,c))) w' H d:=by
 obtain⟨c,w1,e,zc,hc1,e1,e2,e3,e4,hzs,hrun⟩:=ha.new base n cap arro ho hroom hbig
 rw[←hx]at hrun
 have hon1:=hon.congr e1
 have hst:=Step.alloc (β:=β) d c (.cells (arro++arrx++Builtin.zeroCells zc (c-(n+m))) e) hon1
 have hsize:w1.heap.size=w.heap.size:=by rw[e1]
 rw[hsize]at hst
 refine⟨c,_,by rw[Ga hrun];rfl,hc1,⟨by rw[hst.os,e2],by rw[hst.tape,e3],by rw[hst.output,e4],(by simp[hsize]),fun b hb' hk'=>?_,hst.hle,fun b hb'=> .inl hb',hst.hon,hst.beta,fun q hq b c' hb'=>⟨(hst.fresh q hq b c' hb').1,.inl ?_⟩,hst.ninj⟩,?_⟩
 ·rw[hst.keep b (by omega) (fun q hq=>by simp at hq),e1]
 ·have:q=d:=by simpa using hq
  subst this
  rw[Bm.set_same]at hb';cases hb';exact q1G _
 ·have hg:groB s (cso++csx)= .grow s (cso++csx):=by
   cases hcs:cso++csx with
   |nil=>exact absurd hcs hne
   |cons a l=>rfl
  rw[hg]
  have hall:=Sats.append hso hsx
  have hl1:(cso++csx).length=(arro++arrx).toList.length:=by rw[Sats.length hall];simp
  refine .inr ⟨w.heap.size,c,_,e,Bm.set_same _ _ _,by rw[←hsize];exact vr w1 _,?_,?_,?_⟩
  ·simp only[Array.size_append,hszo,hsz,Bc,hzs]
   rw[←q1x,←q1x]
   congr 1;omega
  ·rw[hl1];simp
  ·rw[hl1]
   have:(arro++arrx++Builtin.zeroCells zc (c-(n+m))).toList.take (arro++arrx).toList.length=arro.toList++arrx.toList:=by
    rw[Array.toList_append (xs:=arro++arrx),List.take_left,Array.toList_append]
   rw[this]
   refine Sats.congr (Heap.Le.refl _) (fun q' hq'=>Bm.set_other _ _ fun e=>?_) hall
   subst e
   exact absurd hd (Sats.str hstr hall hq')
theorem Step.weak{w:World}{H:Heap}{β:Bm}{kw kn kd kw' kd':List Nat}{w':World}{H':Heap}{β':Bm}(h:Step w H β kw kn kd w' H' β')(h1: ∀k∈kw,k∈kw')(h2: ∀k∈kd,k∈kd'):Step w H β kw' kn kd' w' H' β':=
 ⟨h.os,h.tape,h.output,h.size,fun b hb hk=>h.keep b hb fun k hkk c=>hk k (h1 k hkk) c,h.hle,h.hnew,h.hon,h.beta,fun k hk b c hb=>⟨(h.fresh k hk b c hb).1,(h.fresh k hk b c hb).2.imp id fun⟨k0,a,c0,e⟩=>⟨k0,h2 k0 a,c0,e⟩⟩,h.ninj⟩
theorem TF{α:Type}{A V:List α}{off n:Nat}(h1:off+V.length≤n)(h2:n≤A.length):(spl A off V).take n=spl (A.take n) off V:=by
 unfold spl
 rw[List.take_append,List.take_append,q1v,List.drop_take]
 have e1:min n off=off:=by omega
 have e2:min off n=off:=by omega
 simp[q1f]
 have e3:min off A.length=off:=by omega
 rw[e3]
 have e4:List.take (n-off) V=V:=q1t (by omega)
 rw[e4,e1,q1v,e2,Nat.sub_sub]
theorem QB{es:Nat}{L l:List V}(hL:okE es L)(hl:okE es l){i:Nat}(hi:i+l.length≤L.length):spl (flat D L) (i*es) (flat D l)=flat D (L.take i++(l++L.drop (i+l.length))):=by
 unfold spl
 rw[wL,wL,Ey hL i (by omega),jE hl,←q1x,Ex hL _ hi]
theorem Mb{es N:Nat}{q:Sq V}{kb kb':KB}{k b:Nat}{β:Bm}{w w':World}{H:Heap}{i c:Nat}{l:List V}{vs:List Value}{arr:Array Value}{T:TypeId}(hkb:(kb= .arr es N q∧kb'= .arr es N (Sq.overL q i l))∨(kb= .gro es N q∧kb'= .gro es N (Sq.overL q i l)))(hok:kb.ok)
  (hl:okE es l)(hi:i+l.length≤N)(h:(kb.blk D).rep β w H k)(hβ:β k=some (b,c))(hw:w.heap[b]?=some (.cells arr T (0,0)))(hs:Sats β H (flat D l) vs)(hset:SetArr w b (spl arr.toList (i*es) vs).toArray T w'):(kb'.blk D).rep β w' H k:=by
 have hbr:Br q N∧okE es (Sq.toL .und q 0 N):=by rcases hkb with⟨rfl,_⟩|⟨rfl,_⟩<;>exact hok
 have hto:=K2 V.und hbr.1 l hi
 have hL:=hbr.2
 have hNl:(Sq.toL .und q 0 N).length=N:=Sq.toL_len _ _ _ _
 have hfl:=jE (D:=D) hL
 rw[hNl]at hfl
 have hfo:=QB (D:=D) hL hl (i:=i) (by omega)
 rw[←hto]at hfo
 have hvl:=Sats.length hs
 rw[jE hl]at hvl
 have hfit:i*es+l.length*es≤N*es:=by rw[←q1x];exact q1U _ hi
 have hlen2:(flat D (Sq.toL .und (Sq.overL q i l) 0 N)).length=(flat D (Sq.toL .und q 0 N)).length:=by rw[←hfo];unfold spl;simp[jE hl];omega
 have hrig:(Blk.rigid (flat D (Sq.toL .und q 0 N))).rep β w H k→(Blk.rigid (flat D (Sq.toL .und (Sq.overL q i l) 0 N))).rep β w' H k:=by
  rintro⟨b',c',arr',T',h1,h2,h3⟩
  rw[hβ]at h1;cases h1
  rw[hw]at h2;cases h2
  refine⟨b,c,_,T,hβ,hset.at_,?_⟩
  rw[←hfo]
  exact h3.spl _ hs
 rcases hkb with⟨rfl,rfl⟩|⟨rfl,rfl⟩
 ·exact hrig h
 ·have h:(groB es (flat D (Sq.toL .und q 0 N))).rep β w H k:=h
  show(groB es (flat D (Sq.toL .und (Sq.overL q i l) 0 N))).rep β w' H k
  rcases Lq (es:=es) hlen2.symm with⟨e1,e2⟩|⟨e1,e2⟩<;>rw[e1]at h<;>rw[e2]
  ·exact hrig h
  ·rcases h with⟨h1,_⟩|⟨b',c',arr',T',h1,h2,h3,h4,h5⟩
   ·rw[hβ]at h1;cases h1
   ·rw[hβ]at h1;cases h1
    rw[hw]at h2;cases h2
    have hsz:(spl arr.toList (i*es) vs).length=arr.size:=by unfold spl;simp;omega
    refine .inr ⟨b,c,_,T,hβ,hset.at_,by simp[hsz,h3],by simp[hsz,hlen2];exact h4,?_⟩
    rw[hlen2]
    show Sats β H _ ((spl arr.toList (i*es) vs).take _)
    rw[TF (by omega) (by simpa using h4),←hfo]
    exact h5.spl _ hs
theorem Of{es N:Nat}{q:Sq V}{i:Nat}{l:List V}(hok:Br q N∧okE es (Sq.toL .und q 0 N))(hl:okE es l)(hi:i+l.length≤N):Br (Sq.overL q i l) N∧okE es (Sq.toL .und (Sq.overL q i l) 0 N):=
 ⟨Br.overL hok.1 hi,by rw[K2 V.und hok.1 l hi];exact FD.2 ⟨wP hok.2 _,FD.2 ⟨hl,GA hok.2 _⟩⟩⟩
theorem NL{es N:Nat}{q:Sq V}{k b c:Nat}{β:Bm}{w:World}{H:Heap}(hL:okE es (Sq.toL .und q 0 N))(h0:0<N*es)(hβ:β k=some (b,c))(h:((KB.gro es N q).blk D).rep β w H k):
  ∃arr T,w.heap[b]?=some (.cells arr T (0,0))∧arr.size=c*es∧N*es≤arr.size∧Sats β H (flat D (Sq.toL .und q 0 N)) (arr.toList.take (N*es)):=by
 have hfl:=jE (D:=D) hL
 rw[Sq.toL_len]at hfl
 have hg:groB es (flat D (Sq.toL .und q 0 N))= .grow es (flat D (Sq.toL .und q 0 N)):=by
  cases hc:flat D (Sq.toL .und q 0 N)with
  |nil=>rw[hc]at hfl;simp at hfl;omega
  |cons a l=>rfl
 have h:(groB es (flat D (Sq.toL .und q 0 N))).rep β w H k:=h
 rw[hg]at h
 rcases h with⟨h1,_⟩|⟨b',c',arr,T,h1,h2,h3,h4,h5⟩
 ·rw[hβ]at h1;cases h1
 ·rw[hβ]at h1;cases h1
  rw[hfl]at h4 h5
  exact⟨arr,T,h2,h3,h4,h5⟩
theorem Vq{α:Type}{o:Option α}(h:isNo o=true):o=none:=by cases o<;>first|rfl|cases h
theorem Bj{v:V}(h:v.on=true):v≠ .und:=fun e=>by subst e;cases h
theorem JE{ks:List (Key×KB)}(h: ∀p∈ks,mget m p.1=some p.2)(hd:mget m d=none):look (jT D ks) d.num=none:=by
 induction ks with
 |nil=>rfl
 |cons p r ih=>
  have hne:p.1.num≠d.num:=fun e=>by
   have:=Key.num_inj e
   have hp:=h p q1k
   rw[this,hd]at hp;cases hp
  show look ((p.1.num,p.2.blk D)::jT D r) d.num=none
  have:=ih fun q hq=>h q (q1j _ hq)
  simp only[look,je hne,cond_false,this]
theorem Td{kin:List (Nat×Blk)}{d:Nat}{B:Blk}(h:look kin d=none):kwOf kin [(d,some B)]=[]∧qt kin [(d,some B)]=[d]∧jg [(d,some B)]=[]:=by simp[kwOf,qt,jg,h]
theorem MW{kin:List (Nat×Blk)}{k:Nat}{B:Blk}(h:(look kin k).isSome=true):kwOf kin [(k,some B)]=[k]∧qt kin [(k,some B)]=[]∧jg [(k,some B)]=[]:=by
 obtain⟨x,hx⟩:=Option.isSome_iff_exists.1 h
 simp[kwOf,qt,jg,hx]
theorem T9{kin:List (Nat×Blk)}{k d:Nat}{B:Blk}(h:(look kin k).isSome=true)(hd:look kin d=none):kwOf kin [(k,none),(d,some B)]=[k]∧qt kin [(k,none),(d,some B)]=[d]∧jg [(k,(none:Option Blk)),(d,some B)]=[k]:=by
 obtain⟨x,hx⟩:=Option.isSome_iff_exists.1 h
 simp[kwOf,qt,jg,hx,hd]
theorem Oa{s:Nat}{L:List V}(h:okE s L)(hs:0<s)(hne:L≠[]):flat D L≠[]:=fun e=>by
 have:=jE (D:=D) h
 rw[e]at this
 cases L with
 |nil=>exact hne rfl
 |cons a l=>simp[q21]at this;omega
theorem UL {ts tx : TypeId} {x y : Operand} {u v : V} {s b : Nat} {xs : List V} {ks : List (Key × KB)} (hs : 0 < s) (hby : 0 < b) (hd : mget m d = none)
    (hsrc : (∀ k b, mget m k = some b → b.ok) → v.on = true ∧ okE s xs ∧ (∀ p ∈ ks, mget m p.1 = some p.2) ∧ ∀ (w : World) (H : Heap) (β : Bm) (yv : Value), (qe D v).sat β H yv → (∀ p ∈ jT D ks, p.2.rep β w H p.1) →
      ∃ arrx : Array Value, Sats β H (flat D xs) arrx.toList ∧ arrx.size = xs.length * s ∧ AppSrc P ts tx ty yv w s b xs.length arrx) :
    KOk D P (.call { callee := .builtin .append, args := #[x, y], argTypes := #[ts, tx] }) ty [x, y] [u, v] m d (appL m s b u xs ks d) := by
  have hnone : ∀ u : V, xs = [] → u.on = true → (∀ β H xv, (qe D u).sat β H xv → ∃ base n cap, xv = .slice base n cap ∧ n ≤ cap) →
      KOk D P (.call { callee := .builtin .append, args := #[x, y], argTypes := #[ts, tx] }) ty [x, y] [u, v] m d (.val u ks) := by
    intro u he hu hsl _ hv hm
    obtain ⟨a1, a2, a3, a4⟩ := hsrc hm
    refine ⟨fun z hz => ?_, a3, ?_, hv u (by simp), Bj hu, trivial⟩
    · simp at hz; rcases hz with rfl | rfl <;> exact Bj (by assumption)
    · refine opk ?_
      show OpOk P _ ty [(x, qe D u), (y, qe D v)] (jT D ks) (qe D u) []
      refine qj fun a w H β hins hkin _ => ?_
      have hx := hins (x, qe D u) (by simp)
      obtain ⟨arrx, b1, b2, b3⟩ := a4 w H β _ (hins (y, qe D v) (by simp)) hkin
      obtain ⟨base, n, cap, hxe, hle⟩ := hsl β H _ hx
      simp only at hx hxe
      refine ⟨a.eval x, hx, fun _ _ _ _ => ?_⟩
      subst he
      have harr : arrx.toList = [] := q10 (by simpa using b2)
      have hrun := b3.room base n cap (by simpa using hle)
      rw [harr] at hrun
      have e : (match base with | some p => (storeCells (p.add (n * s)) []).run P w | none => Result.ok () w) = .ok () w := by cases base <;> simp [storeCells]
      have hrun : (Builtin.append_ #[ts, tx] ty #[.slice base n cap, a.eval y]).run P w = .ok (.slice base n cap) w := by
        rw [hrun]
        show Result.andThen (match base with | some p => (storeCells (p.add (n * s)) []).run P w | none => Result.ok () w) _ = _
        rw [e]; rfl
      rw [← hxe] at hrun
      rw [Ga hrun]; rfl
  -- a new block
  have hnew : ∀ (u : V) (n : Nat) (L : List V) (ks' : List (Key × KB)), xs ≠ [] → u.on = true → L.length = n → (2 * (n + xs.length) + 1000) * b ≤ 281474976710656 →
      ((∀ k b, mget m k = some b → b.ok) → okE s L ∧ (∀ p ∈ ks', mget m p.1 = some p.2) ∧ (∀ p ∈ ks, p ∈ ks') ∧ ∀ (w : World) (H : Heap) (β : Bm) (xv : Value), (qe D u).sat β H xv → (∀ p ∈ jT D ks', p.2.rep β w H p.1) →
        ∃ base cap, xv = .slice base n cap ∧ ¬ n + xs.length ≤ cap ∧ ∃ arro : Array Value, Sats β H (flat D L) arro.toList ∧ arro.size = n * s ∧ ∀ w' : World, w'.heap = w.heap → (Builtin.firstCells s n xv).run P w' = .ok arro w') →
      KOk D P (.call { callee := .builtin .append, args := #[x, y], argTypes := #[ts, tx] }) ty [x, y] [u, v] m d (.nw (.gs d 0 (n + xs.length) s) ks' (.gro s (n + xs.length) (Sq.pushL .e 0 (L ++ xs)))) := by
    intro u n L ks' hne hu hLn hbig hL _ hv hm
    obtain ⟨a1, a2, a3, a4⟩ := hsrc hm
    obtain ⟨l1, l2, l3, l4⟩ := hL hm
    have htl : Sq.toL .und (Sq.pushL .e 0 (L ++ xs)) 0 (n + xs.length) = L ++ xs := by
      have := wt V.und (L ++ xs)
      rwa [q1a, hLn] at this
    have hbr : Br (Sq.pushL .e 0 (L ++ xs)) (n + xs.length) := by
      have := Br.pushL (l := L ++ xs) (Br.e (α := V))
      rwa [q22, q1a, hLn] at this
    refine ⟨fun z hz => ?_, l2, ?_, trivial, by simp [KR.res], ⟨hbr, by rw [htl]; exact FD.2 ⟨l1, a2⟩⟩⟩
    · simp at hz; rcases hz with rfl | rfl <;> exact Bj (by assumption)
    · show OpK P _ ty [(x, qe D u), (y, qe D v)] (jT D ks') (.c (.one (.ks d.num (0 * s) 0 (n + xs.length)))) [(d.num, some (groB s (flat D (Sq.toL .und (Sq.pushL .e 0 (L ++ xs)) 0 (n + xs.length)))))] d.num
      rw [htl, wL]
      intro dst pos after guard a w H β K Q h1 h2 h3 h4 h5 hK
      obtain ⟨e1, e2, e3⟩ := Td (B := groB s (flat D L ++ flat D xs)) (JE (D := D) l2 hd)
      rw [e1, e2, e3] at hK
      have hβd := h5 (by rw [e2]; simp)
      obtain ⟨arrx, b1, b2, b3⟩ := a4 w H β _ (h1 (y, qe D v) (by simp)) (fun p hp => by
        obtain ⟨q, hq, rfl⟩ := List.mem_map.1 hp
        exact (h2 _ (List.mem_map.2 ⟨q, l3 q hq, rfl⟩)).1)
      obtain ⟨base, cap, hxe, hroom, arro, c1, c2, c3⟩ := l4 w H β _ (h1 (x, qe D u) (by simp)) (fun p hp => (h2 p hp).1)
      simp only at hxe
      obtain ⟨c, w', g1, g2, g3, g4⟩ := Np (P := P) (ty := ty) (dst := dst) (pos := pos) (after := after) (guard := guard) b3 hxe hroom hbig b2 c2 (by rw [hxe] at c3; exact c3) c1 b1
        (fun q hq => by rcases q1h.1 hq with hq | hq; exact wM _ _ hq; exact wM _ _ hq) hβd h4 (by
          have := Oa (D := D) a2 hs hne
          simp [this])
      unfold Oper.wp
      rw [g1]
      refine hK _ w' H _ g3 ⟨_, _, Bm.set_same _ _ _, by omega, by simp⟩ ?_
      intro k' b' hb'
      simp only [q1o, q28, q27] at hb'
      obtain ⟨rfl, rfl⟩ := hb'
      exact g4
  -- in place
  have hwr : ∀ (u : V) (k : Key) (kb kb' : KB) (N lo n : Nat) (q : Sq V) (res : V), xs ≠ [] → u.on = true → res.on = true → res.ok1 → mget m k = some kb → lo + n + xs.length ≤ N →
      ((kb = .arr s N q ∧ kb' = .arr s N (Sq.overL q (lo + n) xs)) ∨ (kb = .gro s N q ∧ kb' = .gro s N (Sq.overL q (lo + n) xs))) →
      (∀ β H xv w, (qe D u).sat β H xv → (kb.blk D).rep β w H k.num → ∃ b c cap, β k.num = some (b, c) ∧ xv = .slice (some ⟨b, lo * s, none⟩) n cap ∧ n + xs.length ≤ cap ∧ (qe D res).sat β H (.slice (some ⟨b, lo * s, none⟩) (n + xs.length) cap)) →
      KOk D P (.call { callee := .builtin .append, args := #[x, y], argTypes := #[ts, tx] }) ty [x, y] [u, v] m d (.wr res ((k, kb) :: ks) k kb') := by
    intro u k kb kb' N lo n q res hne hu hr hro hb hfit hkb hx _ hv hm
    obtain ⟨a1, a2, a3, a4⟩ := hsrc hm
    have hbo := hm k kb hb
    have hbo2 : Br q N ∧ okE s (Sq.toL .und q 0 N) := by rcases hkb with ⟨rfl, _⟩ | ⟨rfl, _⟩ <;> exact hbo
    have hbo' : kb'.ok := by
      have := Of (i := lo + n) (l := xs) hbo2 a2 hfit
      rcases hkb with ⟨_, rfl⟩ | ⟨_, rfl⟩ <;> exact this
    have hks : ∀ p ∈ (k, kb) :: ks, mget m p.1 = some p.2 := fun p hp => by
      rcases q1i.1 hp with rfl | hp
      · exact hb
      · exact a3 p hp
    refine ⟨fun z hz => ?_, hks, ?_, V.okC_ok ((V.on_okC hr).2 hro), Bj hr, hbo', ⟨kb, by simp [KR.ks]⟩⟩
    · simp at hz; rcases hz with rfl | rfl <;> exact Bj (by assumption)
    · refine opk ?_
      show OpOk P _ ty [(x, qe D u), (y, qe D v)] (jT D ((k, kb) :: ks)) (qe D res) [(k.num, some (kb'.blk D))]
      intro dst pos after guard a w H β K Q h1 h2 h3 h4 hK
      have hkin : (k.num, kb.blk D) ∈ jT D ((k, kb) :: ks) := by simp [jT]
      obtain ⟨e1, e2, e3⟩ := MW (B := kb'.blk D) (kin := jT D ((k, kb) :: ks)) (k := k.num) (by simp [jT, look])
      rw [e1, e2, e3] at hK
      obtain ⟨hrep, hown⟩ := h2 _ hkin
      obtain ⟨arrx, b1, b2, b3⟩ := a4 w H β _ (h1 (y, qe D v) (by simp)) (fun p hp => (h2 p (by
        obtain ⟨q, hq, rfl⟩ := List.mem_map.1 hp
        exact List.mem_map.2 ⟨q, q1j _ hq, rfl⟩)).1)
      obtain ⟨bb, c, cap, hβ, hxe, hroom, hres⟩ := hx β H _ w (h1 (x, qe D u) (by simp)) hrep
      simp only at hxe
      have hfl := jE (D := D) hbo2.2
      rw [Sq.toL_len] at hfl
      have hmul : (lo + n + xs.length) * s ≤ N * s := q1U _ hfit
      rw [q1x, q1x] at hmul
      obtain ⟨b', c', arr, T, h | h⟩ := GG (es := s) (n := N) (q := q) (by rcases hkb with ⟨h, _⟩ | ⟨h, _⟩; exact .inl h; exact .inr h) hrep
      · obtain ⟨g1, g2, g3, g4⟩ := h
        rw [hβ] at g1; cases g1
        obtain ⟨w', r1, r2⟩ := KP (P := P) (ty := ty) (dst := dst) (pos := pos) (after := after) (guard := guard) b3 hxe hroom g2 (Sats.oneC b1) b2 (by omega)
        rw [← q1x] at r2
        unfold Oper.wp
        rw [r1]
        refine hK _ w' H β (Step.setArr r2 hβ (hown _ _ hβ).1 h4) hres ?_
        intro k' b' hb'
        simp only [q1o, q28, q27] at hb'
        obtain ⟨rfl, rfl⟩ := hb'
        exact Mb (es := s) (N := N) (q := q) hkb hbo a2 hfit hrep hβ g2 b1 r2
      · rw [hβ] at h; cases h.1
  unfold appL
  split
  · split
    · exact hnone _ rfl rfl fun β H xv h => ⟨none, 0, 0, h.1, q1G _⟩
    · rename_i k lo n c w0
      cases hc : Nat.ble n c with
      | false => exact kbad
      | true => exact hnone _ rfl rfl fun β H xv h => by obtain ⟨bb, c', _, rfl⟩ := h; exact ⟨_, _, _, rfl, by simpa using hc⟩
    · exact hnone _ rfl rfl fun β H xv h => by obtain ⟨bb, c', _, hle, rfl⟩ := h; exact ⟨_, _, _, rfl, by omega⟩
    · exact kbad
  · rename_i x0 xr
    generalize hxs : x0 :: xr = xs at *
    have hne : xs ≠ [] := by rw [← hxs]; simp
    have hpos : 0 < xs.length := List.length_pos_iff.2 hne
    split
    · cases hc : Nat.ble ((2 * xs.length + 1000) * b) 281474976710656 with
      | false => exact kbad
      | true =>
        have hc : (2 * xs.length + 1000) * b ≤ 281474976710656 := by simpa using hc
        have := hnew (.uu (.slice none 0 0)) 0 [] ks hne rfl rfl (by rw [q22]; exact hc) fun hm => ⟨fun z hz => by simp at hz, (hsrc hm).2.2.1, fun p hp => hp, fun w H β xv h _ => ⟨none, 0, h.1, by omega, #[], by simp [flat, Sats], by simp, fun w' _ => by rw [h.1]; simp [Builtin.firstCells]⟩⟩
        rw [q22, q1p] at this
        exact this
    · rename_i k lo n c w0
      split
      · rename_i es N q hb
        cases hc : Nat.beq w0 es && Nat.beq es s && Nat.ble (lo + c) N && Nat.ble n c && Nat.ble ((2 * (n + xs.length) + 1000) * b) 281474976710656 with
        | false => exact kbad
        | true =>
          simp only [q0Q] at hc
          obtain ⟨⟨⟨⟨c1, c2⟩, c3⟩, c4⟩, c5⟩ := hc
          have c1 := q1B c1
          have c2 := q1B c2
          subst c1; subst c2
          have c3 : lo + c ≤ N := by simpa using c3
          have c4 : n ≤ c := by simpa using c4
          have c5 : (2 * (n + xs.length) + 1000) * b ≤ 281474976710656 := by simpa using c5
          cases hr : Nat.ble (n + xs.length) c with
          | false =>
            have hr : ¬ n + xs.length ≤ c := bleF hr
            have hsl : srcL m w0 (.sl k lo n c w0) = some (Sq.toL .und q lo n, [(k, .arr w0 N q)]) := by
              have e1 : Nat.beq w0 w0 = true := by simp
              have e2 : Nat.ble (lo + n) N = true := by simp; omega
              unfold srcL
              simp only [hb, e1, e2, Bool.and_self]
            refine hnew (.sl k lo n c w0) n (Sq.toL .und q lo n) ((k, .arr w0 N q) :: ks) hne rfl (Sq.toL_len _ _ _ _) c5 fun hm => ?_
            obtain ⟨_, s2, s3, s4⟩ := B6 (D := D) (P := P) hsl hm
            refine ⟨s2, fun p hp => ?_, fun p hp => q1j _ hp, fun w H β xv h hk => ?_⟩
            · rcases q1i.1 hp with rfl | hp
              · exact hb
              · exact (hsrc hm).2.2.1 p hp
            · obtain ⟨_, t2⟩ := s4 w H β xv h (fun p hp => hk p (by simp [jT] at hp ⊢; exact .inl hp))
              obtain ⟨arro, u1, u2, u3⟩ := t2 n (by rw [Sq.toL_len]; exact q1G _)
              rw [q1t (by rw [Sq.toL_len]; exact q1G _)] at u1
              obtain ⟨bb, c', hβ, rfl⟩ := h
              exact ⟨_, _, rfl, hr, arro, u1, u2, u3⟩
          | true =>
            have hr : n + xs.length ≤ c := by simpa using hr
            refine hwr (.sl k lo n c w0) k _ _ N lo n q (.sl k lo (n + xs.length) c w0) hne rfl rfl trivial hb (by omega) (.inl ⟨rfl, rfl⟩) fun β H xv w h _ => ?_
            obtain ⟨bb, c', hβ, rfl⟩ := h
            exact ⟨bb, c', c, hβ, rfl, hr, bb, c', hβ, rfl⟩
      · exact kbad
    · rename_i k lo n w0
      split
      · rename_i es N q hb
        cases hc : Nat.beq w0 es && Nat.beq es s && Nat.ble (lo + n) N && Nat.ble ((2 * (n + xs.length) + 1000) * b) 281474976710656 with
        | false => exact kbad
        | true =>
          simp only [q0Q] at hc
          obtain ⟨⟨⟨c1, c2⟩, c3⟩, c5⟩ := hc
          have c1 := q1B c1
          have c2 := q1B c2
          subst c1; subst c2
          have c3 : lo + n ≤ N := by simpa using c3
          have c5 : (2 * (n + xs.length) + 1000) * b ≤ 281474976710656 := by simpa using c5
          cases hr : Nat.ble (lo + n + xs.length) N with
          | true =>
            have hr : lo + n + xs.length ≤ N := by simpa using hr
            intro hbad hv hm
            have hbo := hm k _ hb
            have h0 : 0 < N * w0 := q1V (by omega) hs
            refine hwr (.gs k lo n w0) k _ _ N lo n q (.gs k lo (n + xs.length) w0) hne rfl rfl trivial hb hr (.inr ⟨rfl, rfl⟩) (fun β H xv w h hrep => ?_) hbad hv hm
            obtain ⟨bb, c', hβ, hle, rfl⟩ := h
            obtain ⟨arr, T, g1, g2, g3, g4⟩ := NL (D := D) hbo.2 h0 hβ hrep
            have hNc : N ≤ c' := Nat.le_of_mul_le_mul_right (by omega) hs
            exact ⟨bb, c', c' - lo, hβ, rfl, by omega, bb, c', hβ, by omega, rfl⟩
          | false =>
            cases hl : Nat.beq lo 0 && Nat.blt 0 N with
            | false => exact kbad
            | true =>
              rw [q0Q] at hl
              have hl0 := q1B hl.1
              subst hl0
              have hN0 : 0 < N := by simpa using hl.2
              have hr : ¬ 0 + n + xs.length ≤ N := bleF hr
              have hn : n ≤ N := by omega
              intro _ hv hm
              obtain ⟨a1, a2, a3, a4⟩ := hsrc hm
              have hbo := hm k _ hb
              have h0 : 0 < N * w0 := q1V hN0 hs
              generalize hQ : (@Bool.rec (fun _ => Sq V) (Sq.pushL .e 0 (Sq.toL .und q 0 n ++ xs)) (Sq.pushL q n xs) (Nat.beq n N)) = Q'
              have hQ2 : Br Q' (n + xs.length) ∧ Sq.toL .und Q' 0 (n + xs.length) = Sq.toL .und q 0 n ++ xs := by
                cases hnN : Nat.beq n N with
                | true =>
                  have := q1B hnN
                  subst this
                  rw [hnN] at hQ
                  simp only at hQ
                  subst hQ
                  exact ⟨Br.pushL hbo.1, K3 _ hbo.1 _⟩
                | false =>
                  rw [hnN] at hQ
                  simp only at hQ
                  subst hQ
                  have e1 := Br.pushL (l := Sq.toL .und q 0 n ++ xs) (Br.e (α := V))
                  have e2 := wt V.und (Sq.toL .und q 0 n ++ xs)
                  rw [q1a, Sq.toL_len] at e1 e2
                  rw [q22] at e1
                  exact ⟨e1, e2⟩
              have hcut : (Sq.toL .und q 0 N).take n = Sq.toL .und q 0 n := by
                have := Mx V.und q (lo := 0) (n := n) (k := N) (by omega)
                simpa using this
              have hLo : okE w0 (Sq.toL .und q 0 n) := by rw [← hcut]; exact wP hbo.2 _
              have hks : ∀ p ∈ (k, KB.gro w0 N q) :: ks, mget m p.1 = some p.2 := fun p hp => by
                rcases q1i.1 hp with rfl | hp
                · exact hb
                · exact a3 p hp
              refine ⟨fun z hz => ?_, hks, ?_, trivial, by simp [KR.res], ⟨hQ2.1, by rw [hQ2.2]; exact FD.2 ⟨hLo, a2⟩⟩, ⟨_, q1k⟩⟩
              · simp at hz; rcases hz with rfl | rfl
                · simp
                · exact Bj a1
              · show OpK P _ ty [(x, .c (.one (.ks k.num (0 * w0) 0 n))), (y, qe D v)] (jT D ((k, KB.gro w0 N q) :: ks)) (.c (.one (.ks d.num (0 * w0) 0 (n + xs.length)))) [(k.num, none), (d.num, some (groB w0 (flat D (Sq.toL .und Q' 0 (n + xs.length)))))] d.num
                rw [hQ2.2, wL]
                intro dst pos after guard a w H β K Q h1 h2 h3 h4 h5 hK
                obtain ⟨e1, e2, e3⟩ := T9 (B := groB w0 (flat D (Sq.toL .und q 0 n) ++ flat D xs)) (kin := jT D ((k, KB.gro w0 N q) :: ks)) (k := k.num) (by simp [jT, look]) (JE (D := D) hks hd)
                rw [e1, e2, e3] at hK
                have hβd := h5 (by rw [e2]; simp)
                obtain ⟨hrep, hown⟩ := h2 (k.num, (KB.gro w0 N q).blk D) (by simp [jT])
                obtain ⟨arrx, b1, b2, b3⟩ := a4 w H β _ (h1 (y, qe D v) (by simp)) (fun p hp => (h2 p (by
                  obtain ⟨q, hq, rfl⟩ := List.mem_map.1 hp
                  exact List.mem_map.2 ⟨q, q1j _ hq, rfl⟩)).1)
                obtain ⟨bb, c', hβ, hle, hxe⟩ := h1 (x, .c (.one (.ks k.num (0 * w0) 0 n))) (by simp)
                simp only [q24, Nat.sub_zero] at hxe hβ hle
                obtain ⟨arr, T, g1, g2, g3, g4⟩ := NL (D := D) hbo.2 h0 hβ hrep
                have hNw : n * w0 ≤ N * w0 := q1U _ hn
                have hso : Sats β H (flat D (Sq.toL .und q 0 n)) (arr.toList.take (n * w0)) := by
                  have := g4.take (n * w0)
                  rw [Ey hbo.2 n (by rw [Sq.toL_len]; exact hn), hcut, q1v, q1L hNw] at this
                  exact this
                have hstr : ∀ a ∈ flat D (Sq.toL .und q 0 n) ++ flat D xs, AStr a := fun a hq => by rcases q1h.1 hq with hq | hq; exact wM _ _ hq; exact wM _ _ hq
                have hne2 : flat D (Sq.toL .und q 0 n) ++ flat D xs ≠ [] := by
                  have := Oa (D := D) a2 hs hne
                  simp [this]
                by_cases hroom : n + xs.length ≤ c'
                · have hfit : n * w0 + xs.length * w0 ≤ arr.size := by rw [g2, ← q1x]; exact q1U _ hroom
                  obtain ⟨w', r1, r2⟩ := KP (P := P) (ty := ty) (dst := dst) (pos := pos) (after := after) (guard := guard) b3 hxe hroom g1 (Sats.oneC b1) b2 (by omega)
                  rw [q22] at r2
                  unfold Oper.wp
                  rw [r1]
                  have hst2 := Step.setArr r2 hβ (hown _ _ hβ).1 h4
                  refine hK _ w' H (β.set d.num (some (bb, c'))) ⟨hst2.os, hst2.tape, hst2.output, hst2.size, fun b' hb' hk' => hst2.keep b' hb' hk', Heap.Le.refl _, fun b' hb' => .inl hb', hst2.hon, fun q hq => Bm.set_other _ _ (by simpa using hq), fun q hq b' c' hb' => ?_, fun q hq q' hq' hne => ?_⟩ ⟨_, _, Bm.set_same _ _ _, by omega, by simp⟩ ?_
                  · have : q = d.num := by simpa using hq
                    subst this; rw [Bm.set_same] at hb'; cases hb'
                    exact ⟨(hown _ _ hβ).1, .inr ⟨k.num, by simp, _, hβ⟩⟩
                  · have e1 : q = d.num := by simpa using hq
                    have e2 : q' = d.num := by simpa using hq'
                    exact absurd (e1.trans e2.symm) hne
                  · intro q' bb' hqb
                    simp only [q1i, q28, reduceCtorEq, and_false, q27, q1q, or_false, false_or] at hqb
                    obtain ⟨rfl, rfl⟩ := hqb
                    have hg : groB w0 (flat D (Sq.toL .und q 0 n) ++ flat D xs) = .grow w0 (flat D (Sq.toL .und q 0 n) ++ flat D xs) := by
                      cases hcs : flat D (Sq.toL .und q 0 n) ++ flat D xs with
                      | nil => exact absurd hcs hne2
                      | cons a l => rfl
                    rw [hg]
                    have hlx : arrx.toList.length = xs.length * w0 := by simpa using b2
                    have hlo : (flat D (Sq.toL .und q 0 n)).length = n * w0 := by rw [jE hLo, Sq.toL_len]
                    have hszspl : (spl arr.toList (n * w0) arrx.toList).length = arr.size := by unfold spl; simp; simp at hlx; omega
                    have hll : (flat D (Sq.toL .und q 0 n) ++ flat D xs).length = n * w0 + xs.length * w0 := by rw [q1a, hlo, jE a2]
                    refine .inr ⟨bb, c', _, T, Bm.set_same _ _ _, r2.at_, by simp [hszspl, g2], by simp only [List.size_toArray, hszspl, hll]; exact hfit, ?_⟩
                    rw [hll]
                    show Sats _ _ _ ((spl arr.toList (n * w0) arrx.toList).take _)
                    have : (spl arr.toList (n * w0) arrx.toList).take (n * w0 + xs.length * w0) = arr.toList.take (n * w0) ++ arrx.toList := by
                      unfold spl
                      rw [← q0W, List.take_left' (by simp; simp at hlx; omega)]
                    rw [this]
                    have hall := Sats.append hso b1
                    refine Sats.congr (Heap.Le.refl _) (fun q' hq' => Bm.set_other _ _ fun e => ?_) hall
                    subst e
                    exact absurd hβd (Sats.str hstr hall hq')
                · obtain ⟨c, w', r1, r2, r3, r4⟩ := Np (P := P) (ty := ty) (dst := dst) (pos := pos) (after := after) (guard := guard) (arro := (arr.toList.take (n * w0)).toArray) b3 hxe hroom c5 b2 (by simp; omega)
                    (fun w' hw' => by
                      have := QA (P := P) (s := w0) (j := n) (n := n) (c := c') (off := 0) (w := w') (by rw [hw']; exact g1) (by omega)
                      simpa using this) (by simpa using hso) b1 hstr hβd h4 hne2
                  unfold Oper.wp
                  rw [r1]
                  refine hK _ w' H _ (Step.weak r3 (by simp) (by simp)) ⟨_, _, Bm.set_same _ _ _, by omega, by simp⟩ ?_
                  intro q' bb' hqb
                  simp only [q1i, q28, reduceCtorEq, and_false, q27, q1q, or_false, false_or] at hqb
                  obtain ⟨rfl, rfl⟩ := hqb
                  exact r4
      · exact kbad
    · exact kbad
theorem Gq{ts tx:TypeId}{x y:Operand}{u v:V}:KOk D P (.call {callee:= .builtin .append,args:= #[x,y],argTypes:= #[ts,tx]}) ty [x,y] [u,v] m d (CW P ts tx m u v d):=by
 unfold CW
 split
 ·rename_i s b hb
  cases hc:Nat.blt 0 s&&Nat.blt 0 b&&zOk P ts s&&isNo (mget m d)with
  |false=>exact kbad
  |true=>
   simp only[q0Q]at hc
   obtain⟨⟨⟨c1,c2⟩,c3⟩,c4⟩:=hc
   have c1:0<s:=by simpa using c1
   have c2:0<b:=by simpa using c2
   simp only
   split
   ·rename_i xs ks hsrc
    exact UL c1 c2 (Vq c4) fun hm=>N3 hb c1 c2 c3 hsrc hm
   ·exact kbad
 ·exact kbad
end
end
noncomputable section
section
variable {D:List Int} {P:Program} {m:qM} {d:Key} {ty:TypeId}
theorem TJ{a b:List Nat}(ha: ∀x∈a,x<256)(hb: ∀x∈b,x<256)(h:strV a=strV b):a=b:=by
 unfold strV at h
 simp only[Value.string.injEq,ByteArray.mk.injEq]at h
 have h:=congrArg Array.toList h
 simp only at h
 have key: ∀l:List Nat,(∀x∈l,x<256)→(l.map UInt8.ofNat).map UInt8.toNat=l:=by
  intro l hl
  rw[List.map_map]
  conv=>rhs;rw[←List.map_id l]
  refine List.map_congr_left fun x hx=>?_
  have:=hl x hx
  simp[q1M this]
 rw[←key a ha,←key b hb]
 exact congrArg _ h
theorem Xy{kt:TypeId}(hk:P.underlying kt=some .string){s:List Nat}(hs:s.length≤1000000): ∃l,keyOf P kt (strV s)=some l:=by
 refine⟨_,Go.WideMaps.keyOf_string_mk hk ?_⟩
 have e1:(⟨(s.map UInt8.ofNat).toArray⟩:ByteArray).size=s.length:=by show(s.map UInt8.ofNat).toArray.size=_;simp
 rw[e1]
 have:maxLen=9223372036854775807:=by decide
 omega
theorem wV{v:V}(h:kInt v): ∃z:Int,v=ofI .i64 z∧z.natAbs≤4611686018427387904∧v.on=true∧v.a1 D= .val (.int .i64 z):=by
 unfold kInt at h
 split at h
 ·rename_i n;exact⟨(n:Int),rfl,by simpa using h,rfl,rfl⟩
 ·rename_i n;exact⟨Int.negSucc n,rfl,by show n+1≤_;omega,rfl,rfl⟩
 ·exact h.elim
theorem Fw{k:V}(h:kOk false k): ∃a b:V,k= .ag 2 [a,b]∧kInt a∧kInt b:=by
 unfold kOk at h
 split at h
 ·rename_i e;cases e
 ·exact⟨_,_,rfl,h.1,h.2⟩
 ·exact h.elim
theorem Fx{k:V}(h:kOk true k): ∃l,k= .st l∧(∀b∈l,b<256)∧l.length≤1000000:=by
 unfold kOk at h
 split at h
 ·exact⟨_,rfl,h⟩
 ·rename_i e;cases e
 ·exact h.elim
theorem DU(a b:Int):valD (.ag 2 [ofI .i64 a,ofI .i64 b])=keyV (a,b):=by
 cases a<;>cases b<;>rfl
structure MS (P:Program) (t kt e:TypeId) (s:Bool):Prop where
 hm:P.underlying t=some (.map kt e)
 K:Go.WideMaps.KeyLaw P kt
 key: ∀k,kOk s k→ ∃l,keyOf P kt (valD k)=some l
theorem JH{t e:TypeId}{s:Bool}(h:mapS P t=some (s,e)): ∃kt,MS P t kt e s:=by
 unfold mapS at h
 split at h
 ·rename_i kt et h1
  split at h
  ·rename_i h2
   cases h
   refine⟨kt,h1,Go.WideMaps.string_law h2,fun k hk=>?_⟩
   obtain⟨l,rfl,_,h4⟩:=Fx hk
   exact Xy h2 h4
  ·rename_i n e' h2
   split at h
   ·rename_i ki h3
    cases hc:(keq ki .i64&&(Nat.beq n 2&&(Nat.beq (P.cellsOf e') 1&&(Nat.beq (P.cellsOf kt) 2&&Nat.blt 0 P.types.size))))with
    |false=>rw[hc]at h;cases h
    |true=>
     rw[hc]at h;cases h
     simp only[q0Q]at hc
     obtain⟨a1,a4,a5,a6,a7⟩:=hc
     have a1:=CY a1;have a4:=q1B a4
     subst a1;subst a4
     have T:MapT P t kt e' _:=⟨h1,⟨h2,by simp[Program.plainKey,h3],q1B a5,q1B a6⟩,h3,⟨P.types.size-1,by have:=q1D a7;omega⟩⟩
     refine⟨kt,h1,T.A.law,fun k hk=>?_⟩
     obtain⟨a,b,rfl,ha,hb⟩:=Fw hk
     obtain⟨x,rfl,hx,_⟩:=wV (D:=[]) ha
     obtain⟨y,rfl,hy,_⟩:=wV (D:=[]) hb
     rw[DU]
     exact Xx T hx hy
   ·cases h
  ·cases h
 ·cases h
theorem QW{s:Bool}{a b:V}(ha:kOk s a)(hb:kOk s b)(h:valD a=valD b):a=b:=by
 cases s with
 |true=>
  obtain⟨l,rfl,h1,_⟩:=Fx ha
  obtain⟨l',rfl,h2,_⟩:=Fx hb
  rw[TJ h1 h2 h]
 |false=>
  obtain⟨x,y,rfl,hx,hy⟩:=Fw ha
  obtain⟨x',y',rfl,hx',hy'⟩:=Fw hb
  obtain⟨x,rfl,_⟩:=wV (D:=[]) hx
  obtain⟨y,rfl,_⟩:=wV (D:=[]) hy
  obtain⟨x',rfl,_⟩:=wV (D:=[]) hx'
  obtain⟨y',rfl,_⟩:=wV (D:=[]) hy'
  rw[DU,DU]at h
  have:=SZ h
  cases this;rfl
theorem Lx{a b:V}(ha:kInt a)(hb:kInt b):iB a b=true↔a=b:=by
 unfold kInt at ha hb
 split at ha
 ·split at hb
  ·simp[iB]
  ·simp[iB]
  ·exact hb.elim
 ·split at hb
  ·simp[iB]
  ·simp[iB]
  ·exact hb.elim
 ·exact ha.elim
theorem Bz{s:Bool}{a b:V}(ha:kOk s a)(hb:kOk s b):kyB a b=true↔a=b:=by
 cases s with
 |true=>
  obtain⟨l,rfl,h1,_⟩:=Fx ha
  obtain⟨l',rfl,h2,_⟩:=Fx hb
  show beqN l l'=true↔_
  rw[Gd];simp
 |false=>
  obtain⟨x,y,rfl,hx,hy⟩:=Fw ha
  obtain⟨x',y',rfl,hx',hy'⟩:=Fw hb
  show @Bool.rec (fun _=>Bool) false (iB y y') (iB x x')=true↔_
  cases hq:iB x x' with
  |false=>
   have:x≠x':=fun e=>by rw[(Lx hx hx').2 e]at hq;cases hq
   simp[this]
  |true=>
   have e:=(Lx hx hx').1 hq
   show iB y y'=true↔_
   rw[Lx hy hy'];simp[e]
theorem Fv{s:Bool}{k:V}(h:kOkB s k=true)(hk:k.ok):kOk s k:=by
 unfold kOkB at h
 split at h
 ·rename_i l
  cases s with
  |false=>cases h
  |true=>exact⟨hk,by rw[←IG];exact q1D h⟩
 ·rename_i w a b
  cases s with
  |true=>cases h
  |false=>
   have h:(Nat.beq w 2&&(intB a&&intB b))=true:=h
   simp only[q0Q]at h
   obtain⟨h1,h2,h3⟩:=h
   have h1:=q1B h1
   subst h1
   have: ∀v,intB v=true→kInt v:=fun v hv=>by
    unfold intB at hv
    split at hv
    ·exact q1D hv
    ·exact q1D hv
    ·cases hv
   exact⟨this a h2,this b h3⟩
 ·cases h
theorem NV{s:Bool}{k:V}(h:kOk s k){β:Bm}{H:Heap}{x:Value}(hx:(qe D k).sat β H x):x=valD k:=by
 cases s with
 |true=>
  obtain⟨l,rfl,_⟩:=Fx h
  exact hx.1
 |false=>
  obtain⟨a,b,rfl,ha,hb⟩:=Fw h
  obtain⟨a,rfl,_,a1,a2⟩:=wV (D:=D) ha
  obtain⟨b,rfl,_,b1,b2⟩:=wV (D:=D) hb
  obtain⟨⟨us⟩,rfl,hs⟩:=(show∃arr:Array Value,x= .agg arr∧Sats β H (cs D [ofI .i64 a,ofI .i64 b]) arr.toList from hx)
  rw[vf,vf,V.on_c1 a1,V.on_c1 b1,a2,b2]at hs
  rw[DU]
  match us,hs with
  |[u,v],⟨h1,h2,_⟩=>rw[h1.1,h2.1];rfl
  |[],h=>exact h.elim
  |[_],⟨_,h⟩=>exact h.elim
  |_::_::_::_,⟨_,_,h⟩=>exact h.elim
abbrev entM(l:List (V×V))(vs:List Value):List (Value×Value):=List.zip ((l.map fun p=>(valD p.1,p.2.cmp D)).map (·.1)) vs
theorem wK(l:List (V×V)):(l.map fun p=>(valD p.1,p.2.cmp D)).map (·.1)=l.map fun p=>valD p.1:=by rw[List.map_map];rfl
theorem Gk(l:List (V×V)):(l.map fun p=>(valD p.1,p.2.cmp D)).map (·.2)=l.map fun p=>p.2.cmp D:=by rw[List.map_map];rfl
theorem Is{l:List (V×V)}{vs:List Value}{j:Nat}{e:MapEntry}(h:(esOf 0 (entM (D:=D) l vs))[j]?=some e): ∃p v,l[j]?=some p∧vs[j]?=some v∧e=⟨valD p.1,v,0+j⟩:=by
 rw[Gl]at h
 cases hz:(entM (D:=D) l vs)[j]? with
 |none=>rw[hz]at h;cases h
 |some q=>
  rw[hz]at h
  simp only[q26,q27]at h
  subst h
  obtain⟨h1,h2⟩:=List.getElem?_zip_eq_some.1 hz
  rw[wK,List.getElem?_map]at h1
  cases hp:l[j]? with
  |none=>rw[hp]at h1;cases h1
  |some p=>
   rw[hp]at h1
   simp only[q26,q27]at h1
   exact⟨p,q.2,rfl,h2,by rw[h1]⟩
theorem Qy{l:List (V×V)}{vs:List Value}{j:Nat}{p:V×V}{v:Value}(h1:l[j]?=some p)(h2:vs[j]?=some v):(esOf 0 (entM (D:=D) l vs))[j]?=some ⟨valD p.1,v,0+j⟩:=by
 rw[Gl]
 have:(entM (D:=D) l vs)[j]?=some (valD p.1,v):=List.getElem?_zip_eq_some.2 ⟨by rw[wK,List.getElem?_map,h1];rfl,h2⟩
 rw[this];rfl
theorem Ue{s:Bool}{t kt e:TypeId}(M:MS P t kt e s){l:List (V×V)}{vs:List Value}(h:(KB.mp s l).ok): ∀x∈esOf 0 (entM (D:=D) l vs),∃y,keyOf P kt x.key=some y:=by
 intro x hx
 obtain⟨j,hj⟩:=List.getElem?_of_mem hx
 obtain⟨p,v,h1,h2,rfl⟩:=Is hj
 exact M.key _ (h.2 p (q1m h1)).1
theorem JI{s:Bool}{k:V}(hk:kOk s k): ∀{l:List (V×V)}{j:Nat}{p:V×V},(KB.mp s l).ok→l[j]?=some p→p.1=k→Ad l k=some p.2
 |[],j,p,_,h,_=>by cases h
 |q::l,j,p,ho,h,e=>by
  have hq:=(ho.2 q q1k).1
  have ho':(KB.mp s l).ok:=⟨(List.nodup_cons.1 ho.1).2,fun p hp=>ho.2 p (q1j _ hp)⟩
  show @Bool.rec (fun _=>Option V) (Ad l k) (some q.2) (kyB q.1 k)=_
  cases hb:kyB q.1 k with
  |true=>
   cases j with
   |zero=>simp at h;subst h;rfl
   |succ j=>
    exfalso
    have h1:l[j]?=some p:=by simpa using h
    have hq2:=(Bz hq hk).1 hb
    exact(List.nodup_cons.1 ho.1).1 (by show q.1∈_;rw[hq2,←e];exact List.mem_map.2 ⟨p,q1m h1,rfl⟩)
  |false=>
   cases j with
   |zero=>simp at h;subst h;rw[(Bz hq hk).2 e]at hb;cases hb
   |succ j=>exact JI hk ho' (by simpa using h) e
theorem JJ{s:Bool}{k:V}(hk:kOk s k): ∀{l:List (V×V)},(KB.mp s l).ok→(∀p∈l,p.1≠k)→Ad l k=none
 |[],_,_=>rfl
 |q::l,ho,h=>by
  have hq:=(ho.2 q q1k).1
  have ho':(KB.mp s l).ok:=⟨(List.nodup_cons.1 ho.1).2,fun p hp=>ho.2 p (q1j _ hp)⟩
  show @Bool.rec (fun _=>Option V) (Ad l k) (some q.2) (kyB q.1 k)=_
  cases hb:kyB q.1 k with
  |true=>exact absurd ((Bz hq hk).1 hb) (h q q1k)
  |false=>exact JJ hk ho' fun p hp=>h p (q1j _ hp)
theorem Hx{k v:V}: ∀{l:List (V×V)},Ad l k=some v→ ∃p∈l,p.2=v
 |[],h=>by cases h
 |q::l,h=>by
  have h: @Bool.rec (fun _=>Option V) (Ad l k) (some q.2) (kyB q.1 k)=some v:=h
  cases hq:kyB q.1 k with
  |true=>rw[hq]at h;cases h;exact⟨q,q1k,rfl⟩
  |false=>
   rw[hq]at h
   obtain⟨p,h1,h2⟩:=Hx h
   exact⟨p,q1j _ h1,h2⟩
theorem DR{s:Bool}{k v:V}(hk:kOk s k): ∀{l:List (V×V)}{j:Nat}{p:V×V},(KB.mp s l).ok→l[j]?=some p→p.1=k→wF l k v=l.set j (k,v)
 |[],j,p,_,h,_=>by cases h
 |q::l,j,p,ho,h,e=>by
  have hq:=(ho.2 q q1k).1
  have ho':(KB.mp s l).ok:=⟨(List.nodup_cons.1 ho.1).2,fun p hp=>ho.2 p (q1j _ hp)⟩
  show @Bool.rec (fun _=>List (V×V)) (q::wF l k v) ((k,v)::l) (kyB q.1 k)=_
  cases hb:kyB q.1 k with
  |true=>
   cases j with
   |zero=>rfl
   |succ j=>
    exfalso
    have h1:l[j]?=some p:=by simpa using h
    have hq2:=(Bz hq hk).1 hb
    exact(List.nodup_cons.1 ho.1).1 (by show q.1∈_;rw[hq2,←e];exact List.mem_map.2 ⟨p,q1m h1,rfl⟩)
  |false=>
   cases j with
   |zero=>simp at h;subst h;rw[(Bz hq hk).2 e]at hb;cases hb
   |succ j=>rw[List.set_cons_succ,←DR hk ho' (by simpa using h) e]
theorem DS{s:Bool}{k v:V}(hk:kOk s k): ∀{l:List (V×V)},(KB.mp s l).ok→(∀p∈l,p.1≠k)→wF l k v=l++[(k,v)]
 |[],_,_=>rfl
 |q::l,ho,h=>by
  have hq:=(ho.2 q q1k).1
  have ho':(KB.mp s l).ok:=⟨(List.nodup_cons.1 ho.1).2,fun p hp=>ho.2 p (q1j _ hp)⟩
  show @Bool.rec (fun _=>List (V×V)) (q::wF l k v) ((k,v)::l) (kyB q.1 k)=_
  cases hb:kyB q.1 k with
  |true=>exact absurd ((Bz hq hk).1 hb) (h q q1k)
  |false=>rw[List.cons_append,←DS hk ho' fun p hp=>h p (q1j _ hp)]
theorem T8{s:Bool}{k v:V}{l:List (V×V)}(h:(KB.mp s l).ok)(hk:kOk s k)(hv:v.okC):(KB.mp s (wF l k v)).ok:=by
 rcases Classical.em (∃p∈l,p.1=k)with⟨p,hp,e⟩|hno
 ·obtain⟨j,hj⟩:=List.getElem?_of_mem hp
  rw[DR hk h hj e]
  have hm:(l.set j (k,v)).map (·.1)=l.map (·.1):=by
   rw[List.map_set]
   apply List.ext_getElem?
   intro i
   rw[List.getElem?_set]
   by_cases hi:j=i
   ·subst hi
    rw[if_pos rfl]
    obtain⟨hl,hp2⟩:=List.getElem?_eq_some_iff.1 hj
    simp[hl,hp2,e]
   ·rw[if_neg hi]
  refine⟨by rw[hm];exact h.1,fun q hq=>?_⟩
  rcases List.mem_or_eq_of_mem_set hq with hq|rfl
  ·exact h.2 q hq
  ·exact⟨hk,hv⟩
 ·have hn: ∀p∈l,p.1≠k:=fun p hp e=>hno ⟨p,hp,e⟩
  rw[DS hk h hn]
  refine⟨?_,fun q hq=>?_⟩
  ·rw[List.map_append,List.nodup_append]
   refine⟨h.1,by simp,fun a ha b hb=>?_⟩
   simp at hb;subst hb
   obtain⟨p,hp,rfl⟩:=List.mem_map.1 ha
   exact hn p hp
  ·rcases q1h.1 hq with hq|hq
   ·exact h.2 q hq
   ·simp at hq;subst hq;exact⟨hk,hv⟩
theorem Xf(E:List (Value×Value))(j n:Nat)(a b:Value):(esOf n E).modify j (fun e=>{e with key:=a,val:=b})=esOf n (E.set j (a,b)):=by
 induction E generalizing j n with
 |nil=>cases j<;>rfl
 |cons p l ih=>cases j with
  |zero=>rfl
  |succ j=>simp only[esOf,List.modify_succ_cons,List.set_cons_succ];rw[←ih]
theorem OW{α β:Type}: ∀(l:List α)(r:List β)(j:Nat)(x:α)(y:β),List.zip (l.set j x) (r.set j y)=(List.zip l r).set j (x,y)
 |[],r,j,x,y=>by simp
 |a::l,[],j,x,y=>by simp
 |a::l,b::r,0,x,y=>rfl
 |a::l,b::r,j+1,x,y=>by simp only[List.set_cons_succ,List.zip_cons_cons,OW l r j x y]
theorem Ml{β:Bm}{H:Heap}{c:Cmp}{v:Value}(hv:c.sat β H v): ∀{l:List Cmp}{vs:List Value}(j:Nat),CmpSats β H l vs→CmpSats β H (l.set j c) (vs.set j v)
 |[],[],_,_=>trivial
 |_::_,_::_,0,h=>⟨hv,h.2⟩
 |_::_,_::_,j+1,h=>⟨h.1,Ml hv j h.2⟩
 |[],_::_,_,h=>h.elim
 |_::_,[],_,h=>h.elim
theorem JX{β:Bm}{H:Heap}{c:Cmp}{v:Value}(hv:c.sat β H v): ∀{l:List Cmp}{vs:List Value},CmpSats β H l vs→CmpSats β H (l++[c]) (vs++[v])
 |[],[],_=>⟨hv,trivial⟩
 |_::_,_::_,h=>⟨h.1,JX hv h.2⟩
 |[],_::_,h=>h.elim
 |_::_,[],h=>h.elim
theorem E1{β:Bm}{H:Heap}: ∀{l:List Cmp}{vs:List Value},CmpSats β H l vs→l.length=vs.length
 |[],[],_=>rfl
 |_::_,_::_,h=>by simp[E1 h.2]
 |[],_::_,h=>h.elim
 |_::_,[],h=>h.elim
section
variable {w:World} {b:Nat} {l:List (V×V)} {vs:List Value} {t kt e:TypeId} {s:Bool} {k:V}
theorem JV (M : MS P t kt e s) (hb : w.heap[b]? = some (.map (esOf 0 (entM (D := D) l vs)).toArray l.length)) (h : (KB.mp s l).ok) (hl : l.length = vs.length) (hk : kOk s k) (c : Bool) :
  (∀ v, Ad l k = some v → ∃ (j : Nat) (p : V × V) (zv : Value), l[j]? = some p ∧ p.2 = v ∧ vs[j]? = some zv ∧ (Instr.lookup t (.map (some b)) (valD k) c).run P w = .ok (if c then .tuple #[zv, .bool true] else zv) w) ∧
   (Ad l k = none → ∀ i z, P.info? e = some i → i.zero = some z → (Instr.lookup t (.map (some b)) (valD k) c).run P w = .ok (if c then .tuple #[z, .bool false] else z) w) := by
 obtain ⟨kl, hkl⟩ := M.key k hk
 rcases M.K.find w hkl (esOf 0 (entM (D := D) l vs)) (Ue M h) with ⟨f1, f2⟩ | ⟨j, x, f1, f2, f3⟩
 ·have hn : ∀ p ∈ l, p.1 ≠ k := fun p hp e2 => by
   obtain ⟨j, hj⟩ := List.getElem?_of_mem hp
   have hjl : j < vs.length := by rw [← hl]; exact (List.getElem?_eq_some_iff.1 hj).1
   have := Qy (D := D) hj (q16 hjl)
   exact f2 _ (q1m this) (by rw [e2])
  refine ⟨fun v hv => (by rw [JJ hk h hn] at hv; cases hv), fun _ i z hi hz => ?_⟩
  simp [Instr.lookup, qd M.hm, MapKept.run_getObj_map hb, M.K.check w _ hkl, f1, jd hi hz, Result.andThen]
 ·obtain ⟨p, zv, hp, hzv, rfl⟩ := Is f2
  have e3 := QW (h.2 p (q1m hp)).1 hk f3
  have hf := JI hk h hp e3
  refine ⟨fun v hv => ⟨j, p, zv, hp, by rw [hf] at hv; cases hv; rfl, hzv, ?_⟩, fun hv => (by rw [hf] at hv; cases hv)⟩
  simp [Instr.lookup, qd M.hm, MapKept.run_getObj_map hb, M.K.check w _ hkl, f1, Result.andThen]
theorem PW{β:Bm}{H:Heap}{q:V}{qv:Value}(M:MS P t kt e s)(hb:w.heap[b]?=some (.map (esOf 0 (entM (D:=D) l vs)).toArray l.length))(h:(KB.mp s l).ok)(hs:CmpSats β H (l.map fun p=>p.2.cmp D) vs)(hk:kOk s k)(hq:(q.cmp D).sat β H qv):
  ∃vs',(Instr.mapUpdate t (.map (some b)) (valD k) qv).run P w= .ok () (ChangeMaps.setBlock w b (.map (esOf 0 (entM (D:=D) (wF l k q) vs')).toArray (wF l k q).length))∧CmpSats β H ((wF l k q).map fun p=>p.2.cmp D) vs':=by
 have hl:l.length=vs.length:=by have:=E1 hs;simpa using this
 obtain⟨kl,hkl⟩:=M.key k hk
 rcases M.K.find w hkl (esOf 0 (entM (D:=D) l vs)) (Ue M h)with⟨f1,f2⟩|⟨j,x,f1,f2,f3⟩
 ·have hn: ∀p∈l,p.1≠k:=fun p hp e2=>by
   obtain⟨j,hj⟩:=List.getElem?_of_mem hp
   have hjl:j<vs.length:=by rw[←hl];exact(List.getElem?_eq_some_iff.1 hj).1
   have:=Qy (D:=D) hj (q16 hjl)
   exact f2 _ (q1m this) (by rw[e2])
  refine⟨vs++[qv],?_,?_⟩
  ·have e4:entM (D:=D) (l++[(k,q)]) (vs++[qv])=entM (D:=D) l vs++[(valD k,qv)]:=by
    unfold entM
    rw[wK,wK,List.map_append,List.zip_append (by simpa using hl)];rfl
   have e5:(entM (D:=D) l vs).length=l.length:=by unfold entM;rw[wK];simp[hl]
   rw[DS hk h hn,e4,Lj,e5]
   simp[Instr.mapUpdate,qd M.hm,MapKept.run_getObj_map hb,M.K.check w _ hkl,f1,MapKept.run_setObj_map _ hb,Result.andThen,ChangeMaps.setBlock]
  ·rw[DS hk h hn,List.map_append];exact JX hq hs
 ·obtain⟨p,zv,hp,hzv,rfl⟩:=Is f2
  have e3:=QW (h.2 p (q1m hp)).1 hk f3
  refine⟨vs.set j qv,?_,?_⟩
  ·have e4:entM (D:=D) (l.set j (k,q)) (vs.set j qv)=(entM (D:=D) l vs).set j (valD k,qv):=by
    unfold entM
    rw[wK,wK,List.map_set,OW]
   rw[DR hk h hp e3,e4,←Xf,List.length_set]
   subst e3
   simp[Instr.mapUpdate,qd M.hm,MapKept.run_getObj_map hb,M.K.check w _ hkl,f1,f2,M.K.stays w hkl,MapKept.run_setObj_map _ hb,Result.andThen,ChangeMaps.setBlock]
  ·rw[DR hk h hp e3,List.map_set];exact Ml hq j hs
end
theorem Nf{t ty:TypeId}{d:Nat}:OpOk P (.makeMap t none) ty [] [] (.c (.one (.mp d))) [(d,some (.mc []))]:=by
 intro dst pos after guard a w H β K Q h1 h2 h3 h4 hK
 refine PM dst pos after guard a w H β K Q h1 h2 h3 h4 fun v w' H' β' hst hv hL=>hK v w' H' β' hst hv fun k b hb=>?_
 simp only[q1o,q28,q27]at hb
 obtain⟨rfl,rfl⟩:=hb
 obtain⟨b0,c0,h5,h6⟩:=hL k (.mp []) (by simp)
 exact⟨b0,c0,[],h5,h6,trivial⟩
theorem QM{t:TypeId}:KOk D P (.makeMap t none) ty [] [] m d (At P t d):=by
 unfold At
 split
 ·intro _ _ _
  refine⟨fun v hv=>by simp at hv,fun p hp=>by simp[KR.ks]at hp,opk Nf,trivial,by simp[KR.res],⟨by simp,fun p hp=>by simp at hp⟩⟩
 ·exact kbad
theorem SX{t:TypeId}{c:Bool}{x y:Operand}{u v:V}:KOk D P (.lookup t x y c) ty [x,y] [u,v] m d (By P m t c u v):=by
 unfold By
 split
 ·rename_i k
  split
  ·rename_i s l s' e hb ht
   cases hc:((s==s')&&kOkB s v)with
   |false=>exact kbad
   |true=>
    rw[q0Q]at hc
    obtain⟨c1,c2⟩:=hc
    have c1:s=s':=by simpa using c1
    subst c1
    obtain⟨kt,M⟩:=JH ht
    --what is common
    have main: ∀(z:V)(bb:Bool),z.okC→(v.ok→(KB.mp s l).ok→ ∀(w:World)(H:Heap)(β:Bm)(b:Nat)(vs:List Value),w.heap[b]?=some (.map (esOf 0 (entM (D:=D) l vs)).toArray l.length)→CmpSats β H (l.map fun p=>p.2.cmp D) vs→
       ∃zv,(z.cmp D).sat β H zv∧(Instr.lookup t (.map (some b)) (valD v) c).run P w= .ok (if c then .tuple #[zv,.bool bb]else zv) w)→
      KOk D P (.lookup t x y c) ty [x,y] [.mm k,v] m d (.val (lkV c z bb) [(k,.mp s l)]):=by
     intro z bb hzc hrun hr hv hmm
     have hvo:=hv v (by simp)
     have hkk:=Fv c2 hvo
     refine⟨fun q hq=>?_,fun p hp=>(by simp[KR.ks]at hp;subst hp;exact hb),opk ?_,?_,?_,trivial⟩
     ·simp at hq;rcases hq with rfl|rfl
      ·simp
      ·intro e;subst e;cases s<;>exact hkk.elim
     ·show OpOk P (.lookup t x y c) ty [(x,qe D (.mm k)),(y,qe D v)] [(k.num,(KB.mp s l).blk D)] (qe D (lkV c z bb)) []
      refine qj fun a w H β hins hkin _=>?_
      obtain⟨b,c',hβ,hx⟩:=hins _ q1k
      obtain⟨b',c'',vs,hβ',hbk,hss⟩:=hkin _ q1k
      have hy:=NV hkk (hins (y,qe D v) (by simp))
      simp only at hβ hx hβ' hy
      rw[hβ]at hβ';cases hβ'
      rw[q1d]at hbk
      rw[Gk]at hss
      obtain⟨zv,hz,hrn⟩:=hrun hvo (hmm k _ hb) w H β b vs hbk hss
      cases c with
      |true=>
       refine⟨.tuple #[zv,.bool bb],?_,fun _ _ _ _=>?_⟩
       ·show(AV.tup [z.cmp D,V.cmp D (.bb bb)]).sat β H _
        exact⟨_,rfl,hz,⟨rfl,rfl⟩,trivial⟩
       ·simp only[execOp,hx,hy,q2a,hrn,q29,q2b,if_true]
      |false=>
       refine⟨zv,?_,fun _ _ _ _=>?_⟩
       ·show(qe D z).sat β H _
        rw[zq hzc];exact hz
       ·simp only[execOp,hx,hy,q2a,hrn,q29,q2b,q0R,if_false]
     ·cases c with
      |true=>intro q hq;simp[KR.res,lkV]at hq;rcases hq with rfl|rfl;exact hzc;trivial
      |false=>exact V.okC_ok hzc
     ·cases c with
      |true=>simp[KR.res,lkV]
      |false=>exact vt hzc
    simp only
    split
    ·rename_i q hf
     intro hr hv hmm
     have hbo:(KB.mp s l).ok:=hmm k _ hb
     obtain⟨p,hp,hpv⟩:=Hx hf
     have hqc:q.okC:=by rw[←hpv];exact(hbo.2 p hp).2
     refine main q true hqc (fun hvo h w H β b vs hbk hss=>?_) hr hv hmm
     have hl:l.length=vs.length:=by have:=E1 hss;simpa using this
     obtain⟨j,p2,zv,g1,g2,g3,g4⟩:=(JV (D:=D) M hbk h hl (Fv c2 hvo) c).1 q hf
     refine⟨zv,?_,g4⟩
     obtain⟨v2,g5,g6⟩:=CmpSats.get j (a:=q.cmp D) hss (by rw[List.getElem?_map,g1];simp[g2])
     rw[g3]at g5;cases g5;exact g6
    ·rename_i hf
     cases hz:isU (vS P e)with
     |true=>exact kbad
     |false=>
      obtain⟨ti,z,hi,hzz,ez,hzo,hzs⟩:=Bn (D:=D) (t:=e) (P:=P) (vK hz)
      rw[←ez]at hzo hzs
      refine main _ false hzo (fun hvo h w H β b vs hbk hss=>?_)
      have hl:l.length=vs.length:=by have:=E1 hss;simpa using this
      exact⟨z,hzs β H,(JV (D:=D) M hbk h hl (Fv c2 hvo) c).2 hf ti z hi hzz⟩
  ·exact kbad
 ·exact kbad
theorem Vm{t:TypeId}{x y z:Operand}{u v q:V}:KOk D P (.mapUpdate t x y z) ty [x,y,z] [u,v,q] m d (CX P m t u v q):=by
 unfold CX
 split
 ·rename_i k
  split
  ·rename_i s l s' e hb ht
   cases hc:(isC q&&((s==s')&&kOkB s v))with
   |false=>exact kbad
   |true=>
    simp only[q0Q]at hc
    obtain⟨c0,c1,c2⟩:=hc
    have c1:s=s':=by simpa using c1
    subst c1
    obtain⟨kt,M⟩:=JH ht
    intro hr hv hmm
    have hvo:=hv v (by simp)
    have hkk:=Fv c2 hvo
    have hqo:q.okC:=Aa c0 (hv q (by simp))
    have hbo:(KB.mp s l).ok:=hmm k _ hb
    refine⟨fun p hp=>?_,fun p hp=>(by simp[KR.ks]at hp;subst hp;exact hb),opk ?_,fun u hu=>(by simp[KR.res]at hu),by simp[KR.res],T8 hbo hkk hqo,⟨_,by simp[KR.ks];rfl⟩⟩
    ·simp at hp;rcases hp with rfl|rfl|rfl
     ·simp
     ·intro e;subst e;cases s<;>exact hkk.elim
     ·exact vt hqo
    ·show OpOk P (.mapUpdate t x y z) ty [(x,qe D (.mm k)),(y,qe D v),(z,qe D q)] [(k.num,(KB.mp s l).blk D)] B8 [(k.num,some ((KB.mp s (wF l v q)).blk D))]
     intro dst pos after guard a w H β K Q hins hkin _ hon hK
     obtain⟨b,c,hβ,hx⟩:=hins _ q1k
     obtain⟨⟨b',c',vs,hβ',hbk,hss⟩,hown⟩:=hkin _ q1k
     simp only at hβ hx hβ' hown
     rw[hβ]at hβ';cases hβ'
     rw[q1d]at hbk
     rw[Gk]at hss
     have hy:=NV hkk (hins (y,qe D v) (by simp))
     have hz:=hins (z,qe D q) (by simp)
     simp only at hy hz
     rw[zq hqo]at hz
     obtain⟨vs',hrn,hss'⟩:=PW (D:=D) M hbk hbo hss hkk hz
     unfold Oper.wp
     have hrun:(execOp a.eval ⟨dst,.mapUpdate t x y z,ty,pos,after,guard⟩).run P w= .ok .skip (ChangeMaps.setBlock w b (.map (esOf 0 (entM (D:=D) (wF l v q) vs')).toArray (wF l v q).length)):=by
      simp only[execOp,hx,hy,q2a,hrn,q29,q2b]
     rw[hrun]
     have hlt:=(hown b c hβ).2
     refine hK undef _ H β ?_ (A3 _ _) ?_
     ·simpa[kwOf,qt,jg,look]using Step.setMap hlt hβ (hown b c hβ).1 hon
     ·intro k' b' hb'
      simp only[q1o,q28,q27]at hb'
      obtain⟨rfl,rfl⟩:=hb'
      refine⟨b,c,vs',hβ,?_,by rw[Gk];exact hss'⟩
      have hset: ∀o,(ChangeMaps.setBlock w b o).heap[b]?=some o:=fun o=>by simp[ChangeMaps.setBlock,hlt]
      rw[q1d]
      exact hset _
  ·exact kbad
 ·exact kbad
theorem Er: ∀{xs:List V}{l:List Nat},Fe xs=some l→xs=l.map (fun n=> .nn .u8 n)∧ ∀n∈l,n<256
 |[],l,h=>by cases h;exact⟨rfl,fun n hn=>by simp at hn⟩
 |x::r,l,h=>by
  unfold Fe at h
  split at h
  ·rename_i h1;cases h1
  ·rename_i n r' e
   cases e
   split at h
   ·rename_i l' hl
    cases hn:Nat.blt n 256 with
    |false=>rw[hn]at h;cases h
    |true=>
     rw[hn]at h;cases h
     obtain⟨e1,e2⟩:=Er hl
     have hn:n<256:=by simpa using hn
     refine⟨by rw[e1];rfl,fun z hz=>?_⟩
     rcases q1i.1 hz with rfl|hz
     ·exact hn
     ·exact e2 z hz
   ·cases h
  ·cases h
theorem Vf{s t:TypeId}{x:Operand}{v:V}:KOk D P (.convert s t x) ty [x] [v] m d (Lz P m s t v):=by
 unfold Lz
 cases hc:u8E P s&&DH P t with
 |false=>exact kbad
 |true=>
  rw[q0Q]at hc
  obtain⟨e,he,he2⟩: ∃e,P.underlying s=some (.slice e)∧P.underlying e=some (.int .u8):=by
   have:=hc.1;unfold u8E at this;split at this
   ·rename_i e he;split at this
    ·rename_i he2;exact⟨e,he,he2⟩
    ·cases this
   ·cases this
  have ht:P.underlying t=some .string:=by
   have:=hc.2;unfold DH at this;split at this
   ·assumption
   ·cases this
  simp only
  split
  ·rename_i xs ks hsrc
   split
   ·rename_i l hl
    obtain⟨e1,e2⟩:=Er hl
    intro hr hv hm
    obtain⟨a1,a2,a3,a4⟩:=B6 (D:=D) (P:=P) hsrc hm
    refine⟨fun q hq=>(by simp at hq;subst hq;intro e;subst e;cases a1),a3,opk ?_,e2,by simp[KR.res],trivial⟩
    show OpOk P (.convert s t x) ty [(x,qe D v)] (jT D ks) (qe D (.st l)) []
    refine qj fun a w H β hins hkin _=>?_
    have hx:=hins _ q1k
    simp only at hx
    obtain⟨b1,b2⟩:=a4 w H β _ hx hkin
    obtain⟨arrx,c1,c2,c3⟩:=b2 xs.length (q1G _)
    rw[q1s,e1]at c1
    have harr:arrx.toList=l.map fun(n:Nat)=>Value.int .u8 (n:Int):=by
     have: ∀(l:List Nat)(vs:List Value),Sats β H (flat D (l.map fun n=>V.nn .u8 n)) vs→vs=l.map fun(n:Nat)=>Value.int .u8 (n:Int):=by
      intro l
      induction l with
      |nil=>intro vs h;cases vs with|nil=>rfl|cons _ _=>exact h.elim
      |cons n l ih=>intro vs h;cases vs with
       |nil=>exact h.elim
       |cons v vs=>rw[q1g,←ih vs h.2];congr 1;exact h.1.1
     exact this l _ c1
    refine⟨strV l,⟨rfl,rfl⟩,fun _ _ _ _=>?_⟩
    have hsl: ∃b n c,a.eval x= .slice b n c:=by
     have hs:=hsrc
     unfold srcL at hs
     split at hs
     ·exact⟨_,_,_,hx.1⟩
     ·obtain⟨b,c,_,h⟩:=hx;exact⟨_,_,_,h⟩
     ·obtain⟨b,c,_,_,h⟩:=hx;exact⟨_,_,_,h⟩
     ·cases hs
    have hconv:(convert s t (a.eval x)).run P w= .ok (strV l) w:=by
     cases hev:a.eval x with
     |slice base n cap=>
      rw[hev]at b1 c3
      have hn:n=xs.length:=by simpa[Builtin.lenOf]using b1
      rw[run_convert_bytes_string w s t e base n cap he he2 ht]
      have hf:=c3 w rfl
      cases base with
      |none=>
       have h0:arrx= #[]:=by simpa[Builtin.firstCells]using hf.symm
       rw[h0]at harr
       have:l=[]:=by cases l with|nil=>rfl|cons _ _=>simp at harr
       subst this
       simp[Conv.bytesToString,strV];rfl
      |some p=>
       have hf:(loadCells p n).run P w= .ok ((l.map fun(n:Nat)=>(n:Int)).map (Value.int .u8)).toArray w:=by
        have h1:(loadCells p (xs.length*1)).run P w= .ok arrx w:=hf
        rw[Nat.mul_one,←hn]at h1
        rw[h1]
        congr 1
        apply Array.ext'
        rw[harr];simp
       rw[run_bytesToString w p n cap _ hf,foldl_push_bytes]
       unfold strV
       congr 2
       apply Go.WideShapes.bytes_inj
       simp[ByteArray.empty,ByteArray.emptyWithCapacity]
       exact List.map_congr_left fun x _=>rfl
     |_=>obtain⟨_,_,_,h⟩:=hsl;rw[hev]at h;cases h
    simp only[execOp,q2a,hconv,q29,q2b]
   ·exact kbad
  ·exact kbad
end
end
noncomputable section
section
variable {D:List Int} {P:Program} {m:qM} {d:Key} {ty:TypeId}
theorem SH{t:TypeId}{n s:Nat}{g:Bool}(h:elT P t=some (n,s,g)): ∃e,P.underlying t=some (.array n e)∧qy P e=some (g,s):=by
 unfold elT at h
 split at h
 ·rename_i n' e h1
  split at h
  ·rename_i g' s' h2
   cases h
   exact⟨e,h1,h2⟩
  ·cases h
 ·cases h
theorem SV{t:TypeId}{x y:Operand}{u v:V}:KOk D P (.index t x y) ty [x,y] [u,v] m d (Ft P t u v):=by
 unfold Ft
 split
 ·rename_i n s g kk j he
  obtain⟨e,h1,h2⟩:=SH he
  cases hc:isC u&&!u.on&&Nat.blt j n with
  |false=>exact kbad
  |true=>
   simp only[q0Q,q0S]at hc
   obtain⟨⟨c1,c2⟩,c3⟩:=hc
   have c3:j<n:=by simpa using c3
   intro hr hv _
   have ho:=Aa c1 (hv u (by simp))
   obtain⟨l,z,e1,hz,k1,k2,k3,k4⟩:=LJ (D:=D) rfl hr ho
   have e1:(@Bool.rec (fun _=>KR) .bad (ldS g s u (j*s) []) true)= .val z []:=e1
   rw[e1]
   refine⟨fun y hy=>(by simp at hy;rcases hy with rfl|rfl;exact vt ho;simp),fun q hq=>(by simp[KR.ks]at hq),opk ?_,V.okC_ok hz,vt hz,trivial⟩
   show OpOk P (.index t x y) ty [(x,qe D u),(y,qc kk (.ofNat j))] [] (qe D z) []
   rw[zq ho,zq hz,V.off_cmp c2 ho]
   cases g with
   |true=>rw[k3 rfl];exact Af h1 h2 c3 (fun _=>by rw[k1]) (fun h=>by cases h)
   |false=>
    obtain⟨q1,q2,q3⟩:=k4 rfl
    rw[q1]
    rw[q2]at k1
    exact Af h1 h2 c3 (fun h=>by cases h) (fun _=>⟨_,rfl,wB k1 q3⟩)
 ·exact kbad
theorem NJ: ∀(l:List Nat)(j:Nat),getN l j=l[j]?
 |[],j=>by cases j<;>rfl
 |a::r,0=>rfl
 |a::r,j+1=>by
  show getN r j=_
  rw[NJ r j,q13]
theorem SW{t:TypeId}{x y:Operand}{l:List Nat}{v:V}:KOk D P (.index t x y) ty [x,y] [.st l,v] m d (Fu P t l v):=by
 unfold Fu
 split
 ·rename_i kk j
  split
  ·rename_i hu
   split
   ·rename_i b hb
    intro hr hv hm
    have hl: ∀c∈l,c<256:=hv (.st l) (by simp)
    rw[NJ]at hb
    refine Bh (v:= .st l) (u:= .nn kk j) (r:= .nn .u8 b) rfl rfl rfl trivial ?_ hr hv hm
    refine qj fun a w H β hins _ _=>?_
    have hx:=(hins _ q1k).1
    have hy:=(hins (y,.c (.one (V.a1 D (V.nn kk j)))) (by simp)).1
    simp only at hx hy
    refine⟨.int .u8 (b:Int),⟨rfl,rfl⟩,fun _ _ _ _=>?_⟩
    have hj:j<l.length:=(List.getElem?_eq_some_iff.1 hb).1
    have e2:(⟨(l.map UInt8.ofNat).toArray⟩:ByteArray)[j]?=some (UInt8.ofNat b):=by
     have hs:j<(⟨(l.map UInt8.ofNat).toArray⟩:ByteArray).size:=by show j<(l.map UInt8.ofNat).toArray.size;simpa using hj
     rw[getElem?_pos _ j hs]
     have:(⟨(l.map UInt8.ofNat).toArray⟩:ByteArray)[j]=(l.map UInt8.ofNat).toArray[j]'(by simpa using hj):=rfl
     rw[this]
     have h3:=(List.getElem?_eq_some_iff.1 hb).2
     simp[h3]
    have e3:(UInt8.ofNat b).toNat=b:=by
     have:=hl b (q1m hb)
     simp[UInt8.toNat_ofNat'];omega
    simp only[execOp,hx,hy,Instr.index,asIntOf,q2a,q2b,q29,qd hu,strV,if_pos (q0U j),q0V,e2,e3]
   ·exact kbad
  ·exact kbad
 ·exact kbad
theorem Iz{t:TypeId}{x y:Operand}{u v:V}:KOk D P (.index t x y) ty [x,y] [u,v] m d (BS P t u v):=by
 unfold BS
 split
 ·exact SW
 ·exact SV
theorem Ro {op : Op} {xs : List Operand} {vs : List V} {x : Operand} {u : V} {s : Nat} {ks : List (Key × KB)} {r : Nat → V} {f : Nat → List V} {r0 : V} (hmem : (x, qe D u) ∈ List.zip xs (vs.map (qe D))) (hne : u.on = true → (∀ k b, mget m k = some b → b.ok) → ∀ v ∈ vs, v ≠ .und) (hr : ∀ n, (r n).ok ∧ r n ≠ .und) (hr0 : r0 = r 0)
  (hsrc : (∀ k b, mget m k = some b → b.ok) → (∀ p ∈ ks, mget m p.1 = some p.2) ∧ (∀ n, okE s (f n) ∧ (f n).length ≤ n) ∧ ∀ (a : Act) (w : World) (H : Heap) (β : Bm) (base : Option Addr) (n cap : Nat), (∀ p ∈ List.zip xs (vs.map (qe D)), p.2.sat β H (a.eval p.1)) → (∀ p ∈ jT D ks, p.2.rep β w H p.1) → a.eval x = .slice base n cap →
   ∃ arrx : Array Value, Sats β H (flat D (f n)) arrx.toList ∧ ∀ w', (match base with | some p => (storeCells p arrx.toList).run P w | none => Result.ok () w) = .ok () w' →
    ∃ rv, (∀ dst pos after guard, (execOp a.eval ⟨dst, op, ty, pos, after, guard⟩).run P w = .ok (.value rv) w') ∧ ∀ β' H', (qe D (r n)).sat β' H' rv) :
  KOk D P op ty xs vs m d (ovr m s u ks r f r0) := by
 have main : ∀ (k : Key) (kb kb' : KB) (N lo n : Nat) (q : Sq V), u.on = true → mget m k = some kb → lo + n ≤ N → ((kb = .arr s N q ∧ kb' = .arr s N (Sq.overL q lo (f n))) ∨ (kb = .gro s N q ∧ kb' = .gro s N (Sq.overL q lo (f n)))) →
   (∀ β H xv, (qe D u).sat β H xv → ∃ b c cap, β k.num = some (b, c) ∧ xv = .slice (some ⟨b, lo * s, none⟩) n cap) → KOk D P op ty xs vs m d (.wr (r n) ((k, kb) :: ks) k kb') := by
  intro k kb kb' N lo n q hu hb hfit hkb hx _ hv hm
  obtain ⟨a3, a2, a4⟩ := hsrc hm
  obtain ⟨a2, a5⟩ := a2 n
  have hbo := hm k kb hb
  have hfit2 : lo + (f n).length ≤ N := by omega
  have hbo2 : Br q N ∧ okE s (Sq.toL .und q 0 N) := by rcases hkb with ⟨rfl, _⟩ | ⟨rfl, _⟩ <;> exact hbo
  have hbo' : kb'.ok := by
   have := Of (i := lo) (l := f n) hbo2 a2 hfit2
   rcases hkb with ⟨_, rfl⟩ | ⟨_, rfl⟩ <;> exact this
  have hks : ∀ p ∈ (k, kb) :: ks, mget m p.1 = some p.2 := fun p hp => by
   rcases q1i.1 hp with rfl | hp
   ·exact hb
   ·exact a3 p hp
  refine ⟨hne hu hm, hks, ?_, (hr n).1, (hr n).2, hbo', ⟨kb, by simp [KR.ks]⟩⟩
  refine opk ?_
  show OpOk P op ty (List.zip xs (vs.map (qe D))) (jT D ((k, kb) :: ks)) (qe D (r n)) [(k.num, some (kb'.blk D))]
  intro dst pos after guard a w H β K Q h1 h2 h3 h4 hK
  have hkin : (k.num, kb.blk D) ∈ jT D ((k, kb) :: ks) := by simp [jT]
  obtain ⟨e1, e2, e3⟩ := MW (B := kb'.blk D) (kin := jT D ((k, kb) :: ks)) (k := k.num) (by simp [jT, look])
  rw [e1, e2, e3] at hK
  obtain ⟨hrep, hown⟩ := h2 _ hkin
  obtain ⟨bb, c, cap, hβ, hxe⟩ := hx β H _ (h1 (x, qe D u) hmem)
  simp only at hxe
  obtain ⟨arrx, b1, b2⟩ := a4 a w H β _ n cap h1 (fun p hp => (h2 p (by
   obtain ⟨q, hq, rfl⟩ := List.mem_map.1 hp
   exact List.mem_map.2 ⟨q, q1j _ hq, rfl⟩)).1) hxe
  have hfl := jE (D := D) hbo2.2
  rw [Sq.toL_len] at hfl
  have hmul : (lo + (f n).length) * s ≤ N * s := q1U _ hfit2
  rw [q1x] at hmul
  have hlx := Sats.length b1
  rw [jE a2] at hlx
  obtain ⟨b', c', arr, T, h | h⟩ := GG (es := s) (n := N) (q := q) (by rcases hkb with ⟨h, _⟩ | ⟨h, _⟩; exact .inl h; exact .inr h) hrep
  ·obtain ⟨g1, g2, g3, g4⟩ := h
   rw [hβ] at g1; cases g1
   obtain ⟨w', hst, hset⟩ := vH (P := P) arrx.toList (lo * s) 0 w arr g2 (Sats.oneC b1) (by omega)
   obtain ⟨rv, r1, r2⟩ := b2 w' hst
   unfold Oper.wp
   rw [r1]
   refine hK _ w' H β (Step.setArr hset hβ (hown _ _ hβ).1 h4) (r2 _ _) ?_
   intro k' b' hb'
   simp only [q1o, q28, q27] at hb'
   obtain ⟨rfl, rfl⟩ := hb'
   exact Mb (es := s) (N := N) (q := q) hkb hbo a2 hfit2 hrep hβ g2 b1 hset
  ·rw [hβ] at h; cases h.1
 unfold ovr
 split
 ·intro _ hv hm
  obtain ⟨a3, a2, a4⟩ := hsrc hm
  refine ⟨hne rfl hm, a3, ?_, by rw [hr0]; exact (hr 0).1, by rw [hr0]; exact (hr 0).2, trivial⟩
  refine opk (qj fun a w H β hins hkin _ => ?_)
  have hx : (qe D (.uu (.slice none 0 0))).sat β H (a.eval x) := hins (x, _) hmem
  obtain ⟨arrx, b1, b2⟩ := a4 a w H β none 0 0 hins hkin hx.1
  obtain ⟨rv, r1, r2⟩ := b2 w rfl
  exact ⟨rv, by show (qe D r0).sat β H rv; rw [hr0]; exact r2 β H, r1⟩
 ·rename_i k lo n c w0
  split
  ·rename_i es N q hb
   cases hc : Nat.beq w0 es && Nat.beq es s && Nat.ble (lo + n) N with
   | false => exact kbad
   | true =>
    simp only [q0Q] at hc
    obtain ⟨⟨c1, c2⟩, c3⟩ := hc
    have c1 := q1B c1
    have c2 := q1B c2
    subst c1; subst c2
    exact main k _ _ N lo n q rfl hb (by simpa using c3) (.inl ⟨rfl, rfl⟩) fun β H xv h => by obtain ⟨bb, c', hβ, rfl⟩ := h; exact ⟨_, _, _, hβ, rfl⟩
  ·exact kbad
 ·rename_i k lo n w0
  split
  ·rename_i es N q hb
   cases hc : Nat.beq w0 es && Nat.beq es s && Nat.ble (lo + n) N with
   | false => exact kbad
   | true =>
    simp only [q0Q] at hc
    obtain ⟨⟨c1, c2⟩, c3⟩ := hc
    have c1 := q1B c1
    have c2 := q1B c2
    subst c1; subst c2
    exact main k _ _ N lo n q rfl hb (by simpa using c3) (.inr ⟨rfl, rfl⟩) fun β H xv h => by obtain ⟨bb, c', hβ, _, rfl⟩ := h; exact ⟨_, _, _, hβ, rfl⟩
  ·exact kbad
 ·exact kbad
theorem Qs{t tu e:TypeId}{i:TypeInfo}{x y:Operand}(h1:P.underlying t=some (.slice e))(h2:P.info? e=some i){a:Act}{w w':World}{base:Option Addr}{n cap m:Nat}{arrx:Array Value}(ex:a.eval x= .slice base n cap)(hl:(Builtin.lenOf (a.eval y)).run P w= .ok m w)
  (hf:(Builtin.firstCells i.size (Nat.min m n) (a.eval y)).run P w= .ok arrx w)(hst:(match base with|some p=>(storeCells p arrx.toList).run P w|none=>Result.ok () w)= .ok () w')(dst:Option Tmp)(pos:String)(after:Array Edge)(guard:Option (Nat×Bool)):
  (execOp a.eval ⟨dst,.call {callee:= .builtin .copy,args:= #[x,y],argTypes:= #[t,tu]},ty,pos,after,guard⟩).run P w= .ok (.value (goInt (Nat.min m n))) w':=by
 cases base with
 |none=>
  simp only[Result.ok.injEq]at hst
  simp only[execOp,resolve,q2a,q2b,q29,invoke,builtin,List.map_toArray,q1g,List.map_nil,ex,Builtin.copy_,q19,q14,q13,qd h1,hl,qY h2,hf]
  simp[hst]
 |some p=>
  simp only at hst
  simp only[execOp,resolve,q2a,q2b,q29,invoke,builtin,List.map_toArray,q1g,List.map_nil,ex,Builtin.copy_,q19,q14,q13,qd h1,hl,qY h2,hf,hst]
theorem Xr{ts tx:TypeId}{x y:Operand}{u v:V}:KOk D P (.call {callee:= .builtin .copy,args:= #[x,y],argTypes:= #[ts,tx]}) ty [x,y] [u,v] m d (Py P ts m u v):=by
 unfold Py
 split
 ·rename_i s b hb
  split
  ·rename_i xs ks hsrc
   obtain⟨e,i,h1,h2,rfl,rfl⟩:=za hb
   refine Ro (x:=x) (by simp) (fun hu hm z hz=>?_) (fun n=>⟨trivial,by simp⟩) (by simp) fun hm=>?_
   ·simp at hz
    rcases hz with rfl|rfl
    ·exact Bj hu
    ·exact Bj (B6 (D:=D) (P:=P) hsrc hm).1
   ·obtain⟨a1,a2,a3,a4⟩:=B6 (D:=D) (P:=P) hsrc hm
    refine⟨a3,fun n=>⟨wP a2 n,by rw[q1f];omega⟩,fun a w H β base n cap hins hk hx=>?_⟩
    obtain⟨b1,b2⟩:=a4 w H β _ (hins (y,qe D v) (by simp)) hk
    obtain⟨arrx,c1,c2,c3⟩:=b2 (Nat.min xs.length n) (Nat.min_le_left _ _)
    have e1:xs.take (Nat.min xs.length n)=xs.take n:=by
     have:=List.take_eq_take_min (l:=xs) (i:=n)
     rw[this,Nat.min_comm]
    rw[e1]at c1
    exact⟨arrx,c1,fun w' hst=>⟨_,Qs h1 h2 hx b1 (c3 w rfl) hst,fun β' H'=>⟨rfl,rfl⟩⟩⟩
  ·exact kbad
 ·exact kbad
theorem Ix{ts:TypeId}{x:Operand}{u:V}:KOk D P (.call {callee:= .builtin .clear,args:= #[x],argTypes:= #[ts]}) ty [x] [u] m d (LA P ts m u):=by
 unfold LA
 split
 ·rename_i s b hb
  cases hc:!isU (elV P ts)&&Nat.beq (elV P ts).size s with
  |false=>exact kbad
  |true=>
   simp only[q0Q,q0S]at hc
   have c3:=q1B hc.2
   obtain⟨z,hez,hzs,hzo,hzc⟩:=Dw (D:=D) hb (vK hc.1) c3
   obtain⟨e,i,h1,h2,rfl,rfl⟩:=za hb
   obtain⟨e',i',zv,h1',h2',hz',rfl⟩:=zr hez
   rw[h1]at h1';cases h1'
   rw[h2]at h2';cases h2'
   refine Ro (x:=x) (by simp) (fun hu hm y hy=>?_) (fun n=>⟨fun y hy=>(by simp at hy),by simp⟩) rfl fun hm=>⟨fun p hp=>by simp at hp,fun n=>⟨fun y hy=>(by rw[(List.mem_replicate.1 hy).2];exact⟨hzo,c3⟩),by simp⟩,fun a w H β base n cap hins hk hx=>?_⟩
   ·simp at hy;subst hy;exact Bj hu
   ·refine⟨Builtin.zeroCells zv.cells n,?_,fun w' hst=>⟨.tuple #[],fun dst pos after guard=>?_,fun β' H'=>⟨#[],rfl,trivial⟩⟩⟩
    ·have:=vF hzs (hzc β H) n
     unfold Builtin.zeroCells
     rw[hzs];rw[hzs]at this;exact this
    ·have hcl:(Builtin.clear_ #[ts] ty #[.slice base n cap]).run P w= .ok (.tuple #[]) w':=by
      cases base with
      |none=>
       have hst:w=w':=by simpa using hst
       subst hst
       simp only[Builtin.clear_,q19,q14,q2a,qd h1,q29,q2b]
      |some p=>
       simp only at hst
       cases n with
       |zero=>
        have:(storeCells p (Builtin.zeroCells zv.cells 0).toList).run P w= .ok () w:=by simp[Builtin.zeroCells,storeCells]
        rw[this]at hst;cases hst
        simp only[Builtin.clear_,q19,q14,q2a,qd h1,q29,q2b]
       |succ n=>
        simp only[Builtin.clear_,q19,q14,q2a,qd h1,q29,jd h2 hz',hst,q2b]
     simp only[execOp,resolve,q2a,q2b,q29,invoke,builtin,List.map_toArray,q1g,List.map_nil,hx,hcl]
 ·exact kbad
theorem Rf{t e:TypeId}{x:Operand}{u:Atom}{n:Nat}(h:P.underlying t=some (.slice e))(hu: ∀β H v,u.sat β H v→ ∃a l,v= .slice a l n):
  OpOk P (.call {callee:= .builtin .cap,args:= #[x],argTypes:= #[t]}) ty [(x,.c (.one u))] [] (qc .i64 n) []:=
 qj fun a w H β hins _ _=>by
  obtain⟨p,l,hx⟩:=hu β H _ (hins _ q1k)
  simp only at hx
  refine⟨.int .i64 n,⟨rfl,rfl⟩,fun _ _ _ _=>?_⟩
  have hc:(Builtin.cap_ #[t] ty #[.slice p l n]).run P w= .ok (goInt n) w:=by
   simp only[Builtin.cap_,q19,q14,q2a,qd h,q29,q2b]
  simp only[execOp,resolve,q2a,q2b,q29,invoke,builtin,List.map_toArray,q1g,List.map_nil,hx,hc]
  rfl
theorem ZW{ts:TypeId}{x:Operand}{u:V}:KOk D P (.call {callee:= .builtin .cap,args:= #[x],argTypes:= #[ts]}) ty [x] [u] m d (kCap P ts u):=by
 unfold kCap
 cases hs:jo P ts with
 |false=>exact kbad
 |true=>
  unfold jo at hs
  split at hs
  ·rename_i e he
   simp only
   split
   ·rename_i k q n c w
    exact zu (v:= .sl k q n c w) (r:= .nn .i64 c) rfl rfl trivial (Rf he fun β H y hy=>by obtain⟨b,c',_,rfl⟩:=hy;exact⟨_,_,rfl⟩)
   ·rename_i n c
    exact zu (v:= .uu (.slice none n c)) (r:= .nn .i64 c) rfl rfl trivial (Rf he fun β H y hy=>by obtain⟨rfl,_⟩:=hy;exact⟨_,_,rfl⟩)
   ·exact kbad
  ·cases hs
theorem HP{x y:Operand}{ts:Array TypeId}{k:IntKind}{a b:Int}:
  OpOk P (.call {callee:= .builtin .min,args:= #[x,y],argTypes:=ts}) ty [(x,qc k a),(y,qc k b)] [] (qc k (min a b)) []:=
 qj fun ac w H β hins _ _=>by
  have hx:=(hins (x,qc k a) (by simp)).1
  have hy:=(hins (y,qc k b) (by simp)).1
  simp only at hx hy
  refine⟨.int k (min a b),⟨rfl,rfl⟩,fun _ _ _ _=>?_⟩
  have e:(if b<a then b else a)=min a b:=by
   rw[Int.min_def];split<;>split<;>omega
  simp[execOp,resolve,invoke,builtin,hx,hy,Builtin.min_,Builtin.min2,e]
theorem Ps{x y:Operand}{ts:Array TypeId}{u v:V}:KOk D P (.call {callee:= .builtin .max,args:= #[x,y],argTypes:=ts}) ty [x,y] [u,v] m d (wW true u v):=by
 unfold wW
 split
 ·rename_i k a k' b
  cases hk:keq k k' with
  |false=>exact kbad
  |true=>
   have:=CY hk
   subst this
   refine Bh (v:= .nn k a) (u:= .nn k b) (r:= .nn k (Nat.max a b)) rfl rfl rfl trivial ?_
   show OpOk P _ ty [(x,qc k a),(y,qc k b)] [] (qc k ((Nat.max a b:Nat):Int)) []
   have:((Nat.max a b:Nat):Int)=max (a:Int) (b:Int):=by
    show((max a b:Nat):Int)=_
    omega
   rw[this]
   exact Rh
 ·exact kbad
theorem Pu{x y:Operand}{ts:Array TypeId}{u v:V}:KOk D P (.call {callee:= .builtin .min,args:= #[x,y],argTypes:=ts}) ty [x,y] [u,v] m d (wW false u v):=by
 unfold wW
 split
 ·rename_i k a k' b
  cases hk:keq k k' with
  |false=>exact kbad
  |true=>
   have:=CY hk
   subst this
   refine Bh (v:= .nn k a) (u:= .nn k b) (r:= .nn k (Nat.min a b)) rfl rfl rfl trivial ?_
   show OpOk P _ ty [(x,qc k a),(y,qc k b)] [] (qc k ((Nat.min a b:Nat):Int)) []
   have:((Nat.min a b:Nat):Int)=min (a:Int) (b:Int):=by
    show((min a b:Nat):Int)=_
    omega
   rw[this]
   exact HP
 ·exact kbad
theorem arr1{α:Type}{a:Array α}{x:α}(h:a.toList=[x]):a= #[x]:=Array.ext' h
theorem arr2{α:Type}{a:Array α}{x y:α}(h:a.toList=[x,y]):a= #[x,y]:=Array.ext' h
theorem map1{α β:Type}{f:α→β}{l:List α}{y:β}(h:l.map f=[y]): ∃x,l=[x]∧f x=y:=by
 match l,h with
 |[x],h=>simp at h;exact⟨x,rfl,h⟩
theorem map2{α β:Type}{f:α→β}{l:List α}{y z:β}(h:l.map f=[y,z]): ∃x u,l=[x,u]∧f x=y∧f u=z:=by
 match l,h with
 |[x,u],h=>simp at h;exact⟨x,u,rfl,h.1,h.2⟩
theorem QL{e:q9}{b:Builtin}{xs:Array Operand}{ts:Array TypeId}:
  KOk D P (.call {callee:= .builtin b,args:=xs,argTypes:=ts}) ty xs.toList (xs.toList.map (qa e)) m d (vM P b ts.toList (evs e xs.toList) m d):=by
 unfold vM evs
 cases b with
 |len=>
  simp only
  split
  ·rename_i t x h1 h2
   obtain⟨o,e1,rfl⟩:=map1 h2
   rw[arr1 h1,arr1 e1];exact Pq
  ·exact kbad
 |append=>
  simp only
  split
  ·rename_i t u x y h1 h2
   obtain⟨o,o',e1,rfl,rfl⟩:=map2 h2
   rw[arr2 h1,arr2 e1];exact Gq
  ·exact kbad
 |copy=>
  simp only
  split
  ·rename_i t u x y h1 h2
   obtain⟨o,o',e1,rfl,rfl⟩:=map2 h2
   rw[arr2 h1,arr2 e1];exact Xr
  ·exact kbad
 |clear=>
  simp only
  split
  ·rename_i t x h1 h2
   obtain⟨o,e1,rfl⟩:=map1 h2
   rw[arr1 h1,arr1 e1];exact Ix
  ·exact kbad
 |cap=>
  simp only
  split
  ·rename_i t x h1 h2
   obtain⟨o,e1,rfl⟩:=map1 h2
   rw[arr1 h1,arr1 e1];exact ZW
  ·exact kbad
 |max=>
  simp only
  split
  ·rename_i x y h2
   obtain⟨o,o',e1,rfl,rfl⟩:=map2 h2
   rw[arr2 e1];exact Ps
  ·exact kbad
 |min=>
  simp only
  split
  ·rename_i x y h2
   obtain⟨o,o',e1,rfl,rfl⟩:=map2 h2
   rw[arr2 e1];exact Pu
  ·exact kbad
 |_=>exact kbad
theorem LG{e:q9}(o:Op):KOk D P o ty o.operands.toList (o.operands.toList.map (qa e)) m d (kop P e m d o):=by
 cases o with
 |move x=>exact Lt
 |assign x=>exact Gr
 |load t x=>exact Ls
 |binOp op t x y t'=>exact Po
 |fieldAddr s x f=>exact Cz
 |store t x y=>exact IB
 |indexAddr t x y=>exact CA
 |alloc t=>exact Iv
 |box t x=>exact Pp
 |extract x i=>exact EB
 |build t ps=>exact Iw
 |pick c x y=>exact Lu
 |buildSlice t n ps=>exact BO
 |convert s t x=>
  show KOk D P (.convert s t x) ty [x] [qa e x] m d (zF P m s t (qa e x))
  unfold zF
  split
  ·exact Lr
  ·exact Vf
 |makeMap t r=>
  cases r with
  |none=>exact QM
  |some z=>exact kbad
 |lookup t x y c=>exact SX
 |mapUpdate t x y z=>exact Vm
 |unOp op t x=>exact h_un
 |slice t x lo hi mx=>
  cases mx with
  |some z=>exact kbad
  |none=>
   have e1:(Op.slice t x lo hi none).operands.toList=x::(lo.toList++hi.toList):=by
    simp[Op.operands]
   have e2:(x::(lo.toList++hi.toList)).map (qa e)=qa e x::((lo.map (qa e)).toList++(hi.map (qa e)).toList):=by
    cases lo<;>cases hi<;>rfl
   rw[e1,e2]
   exact IA (by cases lo<;>rfl) (by cases hi<;>rfl)
 |nilCheck x=>exact Pw
 |makeSlice t x y=>exact Nc
 |makeFunc fn fs cp=>
  have hk:kop P e m d (.makeFunc fn fs cp)=AJ fn fs (evs e cp.toList):=rfl
  rw[hk]
  by_cases hf:fs.size=0
  ·have hf:=q0P hf
   subst hf
   have e1:(Op.makeFunc fn #[] cp).operands.toList=cp.toList:=by simp[Op.operands]
   rw[e1]
   exact Xs (by simp[evs])
  ·have:AJ fn fs (evs e cp.toList)= .bad:=by
    unfold AJ
    split
    ·rw[je hf]
    ·rfl
   rw[this];exact kbad
 |field s x f=>exact Iy
 |index t x y=>exact Iz
 |call c=>
  obtain⟨cl,xs,ts⟩:=c
  cases cl with
  |builtin b=>
   have e1:(Op.call {callee:= .builtin b,args:=xs,argTypes:=ts}).operands.toList=xs.toList:=by simp[Op.operands,Call.operands]
   rw[e1]
   exact QL
  |_=>exact kbad
 |_=>exact kbad
end
end
noncomputable section
def outc(D:List Int)(j n:Nat):Nat:=match D[j]? with|some z=>(z%(n:Int)).toNat|none=>0
def AgrS(D:List Int)(s:S):Prop:= ∀j p,s.sc[j]?=some p→outc D (s.dn+j) p.1=p.2
structure SOK (D:List Int) (s:S):Prop where
 ok: ∀k b,mget s.m k=some b→b.ok
 lt: ∀k,mget s.m k≠none→k.num<s.nx.num
 agr:AgrS D s
structure MRep (D:List Int) (m:qM) (w:World) (H:Heap) (β:Bm):Prop where
 rep: ∀k b,mget m k=some b→(b.blk D).rep β w H k.num
 own: ∀k b,mget m k=some b→ ∀bb c,β k.num=some (bb,c)→H bb=none∧bb<w.heap.size
 inj: ∀k k' b b',mget m k=some b→mget m k'=some b'→k≠k'→ ∀bb c c',β k.num=some (bb,c)→β k'.num≠some (bb,c')
structure Sim (m m':qM) (n n':Nat) (w:World) (H:Heap) (β:Bm) (w':World) (H':Heap) (β':Bm):Prop where
 os:w'.os=w.os
 tape:w'.tape=w.tape
 output:w'.output=w.output
 size:w.heap.size≤w'.heap.size
 keep: ∀b,b<w.heap.size→(∀k,mget m k≠none→ ∀c,β k.num≠some (b,c))→w'.heap[b]?=w.heap[b]?
 hle:Heap.Le H H'
 hnew: ∀b,H' b≠none→H b≠none∨w.heap.size≤b
 hon:Heap.On H' w'
 beta: ∀k,k<n∨n'≤k→β' k=β k
 own: ∀k b,mget m' k=some b→ ∀bb c,β' k.num=some (bb,c)→w.heap.size≤bb∨ ∃k0,mget m k0≠none∧ ∃c0,β k0.num=some (bb,c0)
structure CallOk (D:List Int) (P:Program) (f:FuncId) (vs:List V) (s:S) (v:V) (s':S):Prop where
 callable:callable P f=true
 sok:SOK D s'
 le:s.nx.num≤s'.nx.num
 ok:v.ok
 ne:v≠ .und
 old: ∀k,mget s'.m k≠none→mget s.m k≠none∨s.nx.num≤k.num
 calls: ∀us w H β,AVs β H (vs.map (qe D)) us→MRep D s.m w H β→Heap.On H w→(∀k,s.nx.num≤k→k<s'.nx.num→β k=none)→
  Calls P f us.toArray w fun e w'=> ∃u H' β',e= .returned u∧Sim s.m s'.m s.nx.num s'.nx.num w H β w' H' β'∧(qe D v).sat β' H' u∧MRep D s'.m w' H' β'
section
variable {D:List Int} {P:Program}
theorem QS: ∃l:List Nat,∀k:Key,k.num∈l:=by
 have: ∀N:Nat,∃l:List Nat,∀i,i<N→i+100000∈l:=by
  intro N
  induction N with
  |zero=>exact⟨[],fun i h=>by omega⟩
  |succ N ih=>
   obtain⟨l,hl⟩:=ih
   refine⟨(N+100000)::l,fun i h=>?_⟩
   by_cases e:i=N
   ·subst e;exact q1k
   ·exact q1j _ (hl i (by omega))
 obtain⟨l,hl⟩:=this 65536
 refine⟨l,fun k=>?_⟩
 have ha:=k.a.n_lt;have hb:=k.b.n_lt;have hc:=k.c.n_lt;have hd:=k.d.n_lt
 have:=hl (k.num-100000) (by unfold Key.num;omega)
 rwa [show k.num-100000+100000=k.num by have:=k.num_ge;omega]at this
def ids:List Nat:=Classical.choose QS
theorem Key.num_ids(k:Key):k.num∈ids:=Classical.choose_spec QS k
def chg(D:List Int)(m m':qM)(n:Nat):Option (Option Blk):=
 match mblk m' n with
 |some b=>some (some (b.blk D))
 |none=>match mblk m n with
  |some _=>some none
  |none=>none
def lwA(D:List Int)(m m':qM):List (Nat×Option Blk):=ids.filterMap fun n=>(chg D m m' n).map fun x=>(n,x)
theorem Au{α:Type}(g:Nat→Option α): ∀(l:List Nat)(n:Nat),look (l.filterMap fun n=>(g n).map fun x=>(n,x)) n=if n∈l then g n else none
 |[],n=>by simp[look]
 |a::l,n=>by
  rw[List.filterMap_cons]
  cases hg:g a with
  |none=>
   simp only[q25]
   rw[Au g l n]
   by_cases e:n=a
   ·subst e;simp[hg]
   ·simp[e]
  |some x=>
   simp only[q26,look]
   by_cases e:n=a
   ·subst e;simp[hg]
   ·rw[je (fun h=>e h.symm)]
    simp only[cond_false]
    rw[Au g l n]
    simp[e]
theorem Sw{m m':qM}{n:Nat}(h:n∉ids):chg D m m' n=none:=by
 have hk: ∀m:qM,mblk m n=none:=by
  intro m
  cases hb:mblk m n with
  |none=>rfl
  |some b=>obtain⟨k,rfl,_⟩:=vE hb;exact absurd k.num_ids h
 unfold chg;rw[hk,hk]
theorem DM(m m':qM)(n:Nat):look (lwA D m m') n=chg D m m' n:=by
 unfold lwA
 rw[Au]
 split
 ·rfl
 ·rename_i h;rw[Sw h]
theorem Qe{E:Env}{σ:FS}{a:Act}{w:World}{H:Heap}{β:Bm}(hrep:RepF E σ a w H β)(hs:Str σ){m m':qM}{lo hi:Nat}{dst:Option Tmp}{R:AV}{u:Value}{w':World}{H':Heap}{β':Bm}
  (hσ: ∀k b,mget m k=some b→σ (2*k.num+1)=some (.bl (b.blk D)))(hsim:Sim m m' lo hi w H β w' H' β')(hsat:R.sat β' H' u)(hM:MRep D m' w' H' β')(hdom: ∀k,lo≤k→k<hi→β k=none)
  (hKs: ∀k∈E.Ks,k<lo)(hd: ∀t,dst=some t→t<E.n):
  RepF E (σ.upd (Wof dst R (lwA D m m'))) (a.put dst u) w' H' β':=by
 have hβ: ∀k,β k≠none→β' k=β k:=fun k hk=>by
  by_cases h:lo≤k∧k<hi
  ·exact absurd (hdom k h.1 h.2) hk
  ·exact hsim.beta k (by omega)
 --a block of the new state
 have hnewblk: ∀k x,(σ.upd (Wof dst R (lwA D m m'))) (2*k+1)=some (.bl x)→
   (mblk m' k=none∧mblk m k=none∧σ (2*k+1)=some (.bl x))∨(∃q b,Key.num q=k∧mget m' q=some b∧x=b.blk D):=by
  intro k x hx
  simp only[FS.upd,jO,DM]at hx
  unfold chg at hx
  cases h1:mblk m' k with
  |some b=>
   rw[h1]at hx
   simp at hx
   obtain⟨q,e1,e2⟩:=vE h1
   exact .inr ⟨q,b,e1,e2,hx.symm⟩
  |none=>
   rw[h1]at hx
   cases h2:mblk m k with
   |some b=>rw[h2]at hx;simp at hx
   |none=>rw[h2]at hx;exact .inl ⟨rfl,rfl,hx⟩
 have hself: ∀k x,σ (2*k+1)=some (.bl x)→β k≠none:=fun k x hx=>(hs _ _ hx).2.2 β w H k (hrep.blk k x hx)
 --an old block that the call does not see
 have hold: ∀k x b c,mblk m k=none→σ (2*k+1)=some (.bl x)→β k=some (b,c)→w'.heap[b]?=w.heap[b]?:=by
  intro k x b c hk hx hb
  refine hsim.keep b (hrep.own k x b c hx hb).2.1 fun q hq c' hq'=>?_
  obtain⟨bq,hbq⟩:=Option.ne_none_iff_exists'.1 hq
  refine hrep.inj q.num k _ x b c' c (hσ q bq hbq) hx (fun e=>?_) hq' hb
  rw[←e,v7]at hk
  exact hq hk
 refine⟨?_,?_,?_,?_,?_,?_,?_,?_,?_,?_,?_,?_,?_,?_,?_⟩
 ·cases dst<;>exact hrep.defers
 ·rw[Act.put_size];exact hrep.size
 ·intro t av ht
  simp only[FS.upd,jI]at ht
  by_cases e:dst=some t
  ·rw[if_pos e]at ht
   simp at ht;subst ht;subst e
   have hlt:t<a.tmps.size:=by rw[hrep.size];exact hd t rfl
   exact⟨u,by simp[Act.put,hlt],hsat⟩
  ·rw[if_neg e]at ht
   obtain⟨v,hv,hsv⟩:=hrep.slot t av ht
   refine⟨v,?_,AV.sat_congr hsim.hle (fun k hk=>hβ k ((hs _ _ ht).2 β H v k hsv hk)) hsv⟩
   cases dst with
   |none=>exact hv
   |some d=>
    have hne:d≠t:=fun e'=>e (by rw[e'])
    simp only[Act.put]
    rw[Array.getElem?_setIfInBounds_ne hne];exact hv
 ·intro k x hx
  rcases hnewblk k x hx with⟨h1,h2,h3⟩|⟨q,b,rfl,h2,rfl⟩
  ·have hr:=hrep.blk k x h3
   refine Blk.rep_congr hr hsim.hle ?_ ?_
   ·rintro k' (rfl|hm)
    ·exact hβ _ (hself _ _ h3)
    ·exact hβ _ ((hs _ _ h3).2.1 β w H k k' hr hm)
   ·intro b c hb
    exact hold k x b c h2 h3 hb
  ·exact hM.rep q b h2
 ·intro k x b c hx hb
  rcases hnewblk k x hx with⟨h1,h2,h3⟩|⟨q,bq,rfl,h2,rfl⟩
  ·rw[hβ k (hself k x h3)]at hb
   obtain⟨o1,o2,o3⟩:=hrep.own k x b c h3 hb
   refine⟨?_,q1J o2 hsim.size,o3⟩
   cases hH:H' b with
   |none=>rfl
   |some cs=>
    rcases hsim.hnew b (by rw[hH];simp)with h|h
    ·exact absurd o1 h
    ·omega
  ·obtain⟨o1,o2⟩:=hM.own q bq h2 b c hb
   refine⟨o1,o2,?_⟩
   rcases hsim.own q bq h2 b c hb with h|⟨k0,hk0,c0,hc0⟩
   ·exact .inl (q1H hrep.wsize h)
   ·obtain⟨b0,hb0⟩:=Option.ne_none_iff_exists'.1 hk0
    exact(hrep.own k0.num _ b c0 (hσ k0 b0 hb0) hc0).2.2
 ·intro k k' x x' b c c' hx hx' hne hb hb'
  have main: ∀q bq k' x' c c',mget m' q=some bq→q.num≠k'→mblk m' k'=none→mblk m k'=none→σ (2*k'+1)=some (.bl x')→β' q.num=some (b,c)→β' k'=some (b,c')→False:=by
   intro q bq k' x' c c' hq hne h1 h2 h3 hb hb'
   rw[hβ k' (hself k' x' h3)]at hb'
   have o:=hrep.own k' x' b c' h3 hb'
   rcases hsim.own q bq hq b c hb with h|⟨k0,hk0,c0,hc0⟩
   ·omega
   ·obtain⟨b0,hb0⟩:=Option.ne_none_iff_exists'.1 hk0
    refine hrep.inj k0.num k' _ x' b c0 c' (hσ k0 b0 hb0) h3 (fun e=>?_) hc0 hb'
    rw[←e,v7]at h2;exact hk0 h2
  rcases hnewblk k x hx with⟨h1,h2,h3⟩|⟨q,bq,rfl,h2,rfl⟩<;>rcases hnewblk k' x' hx' with⟨g1,g2,g3⟩|⟨q',bq',rfl,g2,rfl⟩
  ·rw[hβ k (hself k x h3)]at hb
   rw[hβ k' (hself k' x' g3)]at hb'
   exact hrep.inj k k' x x' b c c' h3 g3 hne hb hb'
  ·exact main q' bq' k x c' c g2 (Ne.symm hne) h1 h2 h3 hb' hb
  ·exact main q bq k' x' c c' h2 hne g1 g2 g3 hb hb'
  ·exact hM.inj q q' bq bq' h2 g2 (fun e=>hne (by rw[e])) b c c' hb hb'
 ·intro k hk
  rw[hsim.beta k (.inl (hKs k hk))];exact hrep.bor k hk
 ·rw[hsim.os];exact hrep.os
 ·rw[hsim.tape];exact hrep.tape
 ·rw[hsim.output];exact hrep.output
 ·exact q1H hrep.wsize hsim.size
 ·intro b hb hbor
  rw[hsim.keep b (q1J hb hrep.wsize) fun q hq c hc=>?_]
  ·exact hrep.frame b hb hbor
  ·obtain⟨bq,hbq⟩:=Option.ne_none_iff_exists'.1 hq
   rcases(hrep.own q.num _ b c (hσ q bq hbq) hc).2.2 with h|⟨k0,hk0,c0,h⟩
   ·omega
   ·exact hbor k0 hk0 c0 h
 ·exact hrep.hle.trans hsim.hle
 ·intro b hb
  rcases hsim.hnew b hb with h|h
  ·exact hrep.hnew b h
  ·exact .inr (q1H hrep.wsize h)
 ·exact hsim.hon
theorem AVs.locs{β:Bm}{H:Heap}: ∀{ps:List (Key×Nat)}{vs:List Value},LocsSat β (ps.map fun p=>(p.1.num,p.2)) vs→AVs β H ((ps.map fun p=>V.pp p.1 p.2).map (qe D)) vs
 |[],[],_=>trivial
 |p::ps,v::vs,h=>⟨h.1,AVs.locs h.2⟩
 |[],_::_,h=>h.elim
 |_::_,[],h=>h.elim
theorem AVs.append{β:Bm}{H:Heap}: ∀{l l':List AV}{vs vs':List Value},AVs β H l vs→AVs β H l' vs'→AVs β H (l++l') (vs++vs')
 |[],_,[],_,_,h=>h
 |_::_,_,_::_,_,h,h'=>⟨h.1,AVs.append h.2 h'⟩
 |[],_,_::_,_,h,_=>h.elim
 |_::_,_,[],_,h,_=>h.elim
theorem N5{f:V}{g:FuncId}{ps:List (Key×Nat)}(h:vJ f=some (g,ps)){β:Bm}{H:Heap}{x:Value}(hs:(qe D f).sat β H x):
  ∃cap:List Value,x= .func (.func g) #[] cap.toArray∧AVs β H ((ps.map fun p=>V.pp p.1 p.2).map (qe D)) cap:=by
 unfold vJ at h
 split at h
 ·rename_i g' a b
  cases hc:Nat.beq a.size 0&&Nat.beq b.size 0 with
  |false=>rw[hc]at h;cases h
  |true=>
   rw[hc]at h
   cases h
   rw[q0Q]at hc
   have ha:=q0P (q1B hc.1)
   have hb:=q0P (q1B hc.2)
   subst ha;subst hb
   exact⟨[],hs.1,trivial⟩
 ·rename_i g' ps'
  cases h
  obtain⟨cap,e,hl⟩:=hs
  exact⟨cap,e,AVs.locs hl⟩
 ·cases h
theorem QJ{E:Env}{ops:Array Oper}{i:Nat}{o:Oper}{e:q9}{m:qM}{s s':S}{f:Operand}{xs:Array Operand}{ts:Array TypeId}{g:FuncId}{ps:List (Key×Nat)}{v:V}(ho:ops[i]?=some o)(hop:o.op= .call {callee:= .value f,args:=xs,argTypes:=ts})
  (hg:jf ops.toList e o.guard=some true)(hd: ∀t,o.dst=some t→t<E.n)(hcal:vJ (qa e f)=some (g,ps))(hne: ∀x∈xs.toList,qa e x≠ .und)
  (hcall:CallOk D P g (evs e xs.toList++ps.map fun p=> .pp p.1 p.2) s v s')(hm: ∀k b,mget s.m k=some b→mget m k=some b)(hKs: ∀k∈E.Ks,k<s.nx.num):
  GoodK P E ops i ⟨gslK ops.toList o.guard++j7 (f::xs.toList)++(ids.filter fun n=>(mblk s.m n).isSome).map (fun n=>2*n+1),Wof o.dst (qe D v) (lwA D s.m s'.m),[],[],none⟩ noAl s.nx.num s'.nx.num (qm D e m):=by
 intro σ hs hσ a w H β K Q hrep hdom hK
 have hrd: ∀ℓ,(ℓ∈gslK ops.toList o.guard∨ℓ∈j7 (f::xs.toList)∨ ∃n,n∈ids∧(mblk s.m n).isSome=true∧2*n+1=ℓ)→σ ℓ=qm D e m ℓ:=fun ℓ hℓ=>by
  rcases hσ ℓ (by simp only[q1h,List.mem_map,q1l];rcases hℓ with h|h|⟨n,h1,h2,h3⟩;exact .inl (.inl h);exact .inl (.inr h);exact .inr ⟨n,⟨h1,h2⟩,h3⟩)with h|⟨x,hx,_⟩
  ·exact h
  ·exact hx.elim
 have hw:=F9 (D:=D) hrep hg fun ℓ hℓ=>hrd ℓ (.inl hℓ)
 have hσm: ∀k b,mget s.m k=some b→σ (2*k.num+1)=some (.bl (b.blk D)):=fun k b hb=>by
  rw[hrd _ (.inr (.inr ⟨k.num,k.num_ids,by rw[v7,hb];rfl,rfl⟩))]
  exact jH (hm k b hb)
 have hM:MRep D s.m w H β:=by
  refine⟨fun k b hb=>hrep.blk _ _ (hσm k b hb),fun k b hb bb c h=>⟨(hrep.own _ _ bb c (hσm k b hb) h).1,(hrep.own _ _ bb c (hσm k b hb) h).2.1⟩,fun k k' b b' hb hb' hne' bb c c' h=>?_⟩
  exact hrep.inj _ _ _ _ bb c c' (hσm k b hb) (hσm k' b' hb') (fun e=>hne' (Key.num_inj e)) h
 unfold wpOp
 rw[ho]
 simp only[hw,if_true]
 refine .inl ?_
 obtain⟨dst,op,ty,pos,after,guard⟩:=o
 simp only at hop hd hg hrd hK⊢
 subst hop
 have hfne:qa e f≠ .und:=fun h=>by rw[h]at hcal;cases hcal
 have hf:=Fj (D:=D) (e:=e) (m:=m) hrep hfne fun t ht=>hrd _ (.inr (.inl (AL (by rw[ht];exact q1k))))
 obtain⟨cap,hfe,hcap⟩:=N5 hcal hf
 have hargs:AVs β H ((evs e xs.toList).map (qe D)) (xs.toList.map a.eval):=by
  have:= @AVs.of_ins β H a xs.toList (xs.toList.map fun x=>qe D (qa e x)) (by simp) (fun p hp=>by
   obtain⟨h1,h2⟩:=Jc hp
   rw[h2]
   exact Fj hrep (hne _ h1) fun t ht=>hrd _ (.inr (.inl (AL (by rw[←ht];exact q1j _ h1)))))
  simpa[evs,List.map_map,Function.comp_def]using this
 have hall:AVs β H ((evs e xs.toList++ps.map fun p=>V.pp p.1 p.2).map (qe D)) (xs.toList.map a.eval++cap):=by
  rw[List.map_append];exact AVs.append hargs hcap
 have hc:=hcall.calls _ w H β hall hM hrep.hon hdom
 unfold Oper.wp
 have hrun:(execOp a.eval ⟨dst,.call {callee:= .value f,args:=xs,argTypes:=ts},ty,pos,after,guard⟩).run P w= .ok (.enter g (xs.map a.eval++cap.toArray)) w:=by
  simp only[execOp,resolve,hfe,Deferred.ofValue,q2a,q2b,q29,invoke]
  rw[show(#[]++Array.map a.eval xs++cap.toArray:Array Value)=Array.map a.eval xs++cap.toArray by simp]
  exact F0 hcall.callable _ w
 rw[hrun]
 show Calls P g (xs.map a.eval++cap.toArray) w _
 have ea:(xs.toList.map a.eval++cap).toArray=xs.map a.eval++cap.toArray:=Array.ext' (by simp)
 rw[←ea]
 refine hc.mono fun e' w'⟨u,H',β',he,hsim,hR,hM'⟩=>?_
 subst he
 exact hK _ w' H' β' (Qe hrep hs hσm hsim hR hM' hdom hKs hd) hsim.beta
end
end
noncomputable section
structure Rel (D:List Int) (E:Env) (lo U:Nat) (e:q9) (s:S) (a:Act) (w:World) (H:Heap) (β:Bm):Prop where
 rep:RepF E (qm D e s.m) a w H β
 dom: ∀k,s.nx.num≤k→k<U→β k=none
 bet: ∀k,k<lo∨s.nx.num≤k→β k=E.β0 k
structure EOK (D:List Int) (E:Env) (lo:Nat) (e:q9) (s:S):Prop where
 slots: ∀t,(slot e t).ok
 sok:SOK D s
 le:lo≤s.nx.num
 ks: ∀k∈E.Ks,k<lo
 old: ∀k,mget s.m k≠none→k.num∈E.Ks∨lo≤k.num
def RcOk(D:List Int)(P:Program)(rc:FuncId→List V→S→RO):Prop:=
 ∀f vs s v s',rc f vs s= .ok v s'→(∀x∈vs,x.ok∧x≠ .und)→SOK D s→CallOk D P f vs s v s'
def Hi:X→Exit
 | .nrm=> .normal
 | .ext id=> .exit id
 | .ret=> .ret
def Dl(D:List Int)(E:Env)(lo U:Nat)(x:X)(e:q9)(s:S):Exit→Act→World→Prop:=fun ex a w=>ex=Hi x∧ ∃H β,Rel D E lo U e s a w H β
section
variable {D:List Int} {P:Program} {rc:FuncId→List V→S→RO}
theorem Cp{e:q9}{dst:Option Tmp}{v:V}(hd: ∀t,dst=some t→t<256)(he: ∀t,(slot e t).ok)(hv:v.ok): ∀t,(slot (ji e dst v) t).ok:=by
 intro t
 cases dst with
 |none=>exact he t
 |some d=>
  show(slot (eset e d v) t).ok
  rw[BZ v (hd d rfl)]
  split
  ·exact hv
  ·exact he t
theorem RZ{e:q9}{m m':qM}{dst:Option Tmp}{v:V}(hv:v≠ .und)(hd: ∀t,dst=some t→t<256):(qm D e m).upd (Wof dst (qe D v) (lwA D m m'))=qm D (ji e dst v) m':=by
 have hav:v.av D=some (qe D v):=by
  rcases V.av_or (D:=D) v with e1|⟨l,e1⟩|e1
  ·exact absurd e1 hv
  ·rw[e1];rfl
  ·rw[qe,e1];rfl
 funext ℓ
 rcases q1O ℓ with h|h
 ·obtain⟨t,rfl⟩: ∃t,ℓ=2*t:=⟨ℓ/2,by omega⟩
  simp only[FS.upd,jI]
  rw[qA,qA]
  cases dst with
  |none=>simp[ji]
  |some d'=>
   show(match(if some d'=some t then some (some (XV.av (qe D v)))else none)with|some v=>v|none=>_)=((slot (eset e d' v) t).av D).map .av
   rw[BZ v (hd d' rfl)]
   by_cases e1:t=d'
   ·subst e1;simp[hav]
   ·have e2: ¬(some d':Option Tmp)=some t:=fun h=>e1 (Option.some.inj h).symm
    rw[if_neg e2,if_neg e1]
 ·obtain⟨k,rfl⟩: ∃k,ℓ=2*k+1:=⟨ℓ/2,by omega⟩
  simp only[FS.upd,jO,DM]
  rw[qh,qh]
  unfold chg
  cases mblk m' k with
  |some b=>rfl
  |none=>cases mblk m k<;>rfl
theorem Oi{m:qM}{nx:Key}{dn:Nat}{sc:List (Nat×Nat)}{v v':V}{b:KB}{s':S}(h:putK m nx dn sc v b= .ok v' s'):v'=v∧s'.m=mset m nx (some b)∧s'.nx.num=nx.num+1∧s'.dn=dn∧s'.sc=sc:=by
 unfold putK at h
 split at h
 ·rename_i k' hk
  cases h
  exact⟨rfl,rfl,Key.succ_num hk,rfl,rfl⟩
 ·cases h
theorem U7{s s':S}{r:KR}{v:V}(h:ap s r= .ok v s'):r≠ .bad∧v=r.res∧s'.m=apM D s.m s.nx r∧s'.dn=s.dn∧s'.sc=s.sc∧
  (((∃v ks b,r= .nw v ks b)∨(∃v ks k b,r= .mv v ks k b))→s'.nx.num=s.nx.num+1)∧((¬((∃v ks b,r= .nw v ks b)∨(∃v ks k b,r= .mv v ks k b)))→s'.nx=s.nx):=by
 cases r with
 |bad=>cases h
 |val v ks=>cases h;exact⟨by simp,rfl,rfl,rfl,rfl,fun h=>(by rcases h with⟨_,_,_,h⟩|⟨_,_,_,_,h⟩<;>cases h),fun _=>rfl⟩
 |wr v ks k b=>cases h;exact⟨by simp,rfl,rfl,rfl,rfl,fun h=>(by rcases h with⟨_,_,_,h⟩|⟨_,_,_,_,h⟩<;>cases h),fun _=>rfl⟩
 |nw v ks b=>
  obtain⟨h1,h2,h3,h4,h5⟩:=Oi h
  exact⟨by simp,h1,h2,h4,h5,fun _=>h3,fun h=>absurd (.inl ⟨_,_,_,rfl⟩) h⟩
 |mv v ks k b=>
  obtain⟨h1,h2,h3,h4,h5⟩:=Oi h
  exact⟨by simp,h1,h2,h4,h5,fun _=>h3,fun h=>absurd (.inr ⟨_,_,_,_,rfl⟩) h⟩
theorem Gn{s:S}(h:SOK D s):mget s.m s.nx=none:=by
 cases hb:mget s.m s.nx with
 |none=>rfl
 |some b=>have:=h.lt s.nx (by rw[hb];simp);omega
structure FP (all:List Oper) (o:Oper) (p:PI) (s s':S):Prop where
 rd: ∀ℓ∈p.rd,(∃t,ℓ=2*t∧(ℓ∈gslK all o.guard∨ℓ∈j7 o.op.operands.toList))∨ ∃k b,mget s.m k=some b∧ℓ=2*k.num+1
 wr: ∀ℓ,look p.W ℓ≠none→(∃t,o.dst=some t∧ℓ=2*t)∨ ∃k:Key,ℓ=2*k.num+1∧(mget s.m k≠none∨(s.nx.num≤k.num∧k.num<s'.nx.num))
 str: ∀ℓ x,look p.W ℓ=some (some x)→XStr ℓ x
theorem EA{all:List Oper}{g:Option (Nat×Bool)}{ℓ:Nat}(h:ℓ∈gslK all g): ∃t,ℓ=2*t:=by
 unfold gslK at h
 split at h
 ·simp at h
 ·split at h
  ·rename_i t _;simp at h;exact⟨t,h⟩
  ·simp at h
theorem jG: ∀{l:List Operand}{ℓ:Nat},ℓ∈j7 l→ ∃t,ℓ=2*t
 |[],ℓ,h=>by simp[j7]at h
 |x::l,ℓ,h=>by
  cases x with
  |tmp t=>
   simp only[j7,q1i]at h
   rcases h with h|h
   ·exact⟨t,h⟩
   ·exact jG h
  |_=>simp only[j7]at h;exact jG h
theorem wS{dst:Option Tmp}{R:AV}{Lw:List (Nat×Option Blk)}{ℓ:Nat}(h:look (Wof dst R Lw) ℓ≠none):(∃t,dst=some t∧ℓ=2*t)∨ ∃k,ℓ=2*k+1∧look Lw k≠none:=by
 rcases q1O ℓ with h2|h2
 ·obtain⟨t,rfl⟩: ∃t,ℓ=2*t:=⟨ℓ/2,by omega⟩
  rw[jI]at h
  split at h
  ·rename_i e;exact .inl ⟨t,e,rfl⟩
  ·exact absurd rfl h
 ·obtain⟨k,rfl⟩: ∃k,ℓ=2*k+1:=⟨ℓ/2,by omega⟩
  rw[jO]at h
  refine .inr ⟨k,rfl,fun e=>?_⟩
  rw[e]at h;exact h rfl
theorem Il{dst:Option Tmp}{v:V}{Lw:List (Nat×Option Blk)}(hv:v≠ .und)(hL: ∀k b,look Lw k=some (some b)→XStr (2*k+1) (.bl b)){ℓ:Nat}{x:XV}(h:look (Wof dst (qe D v) Lw) ℓ=some (some x)):XStr ℓ x:=by
 rcases q1O ℓ with h2|h2
 ·obtain⟨t,rfl⟩: ∃t,ℓ=2*t:=⟨ℓ/2,by omega⟩
  rw[jI]at h
  split at h
  ·cases h
   have hav:v.av D=some (qe D v):=by
    rcases V.av_or (D:=D) v with e1|⟨l,e1⟩|e1
    ·exact absurd e1 hv
    ·rw[e1];rfl
    ·rw[qe,e1];rfl
   exact Qf hav t
  ·cases h
 ·obtain⟨k,rfl⟩: ∃k,ℓ=2*k+1:=⟨ℓ/2,by omega⟩
  rw[jO]at h
  cases hl:look Lw k with
  |none=>rw[hl]at h;cases h
  |some b=>
   cases b with
   |none=>rw[hl]at h;cases h
   |some b=>rw[hl]at h;cases h;exact hL k b hl
theorem LN{d:Key}{r:KR}{k:Nat}(h:look (lw D d r) k≠none):(∃v ks q b,(r= .wr v ks q b∨r= .mv v ks q b)∧k=q.num)∨(k=d.num∧((∃v ks b,r= .nw v ks b)∨ ∃v ks q b,r= .mv v ks q b)):=by
 cases r with
 |bad=>exact absurd rfl h
 |val v ks=>exact absurd rfl h
 |wr v ks q b=>
  by_cases e:q.num=k
  ·exact .inl ⟨v,ks,q,b,.inl rfl,e.symm⟩
  ·exact absurd (by simp[lw,look,je e]) h
 |nw v ks b=>
  by_cases e:d.num=k
  ·exact .inr ⟨e.symm,.inl ⟨v,ks,b,rfl⟩⟩
  ·exact absurd (by simp[lw,look,je e]) h
 |mv v ks q b=>
  by_cases e:q.num=k
  ·exact .inl ⟨v,ks,q,b,.inr rfl,e.symm⟩
  ·by_cases e2:d.num=k
   ·exact .inr ⟨e2.symm,.inr ⟨v,ks,q,b,rfl⟩⟩
   ·exact absurd (by simp[lw,look,je e,je e2]) h
theorem XC{d:Key}{r:KR}{k:Nat}{b:Blk}(h:look (lw D d r) k=some (some b)):XStr (2*k+1) (.bl b):=by
 have hb: ∀q c,look (lw D d r) q=some (some c)→ ∃kb:KB,c=kb.blk D:=by
  intro q c h
  cases r with
  |bad=>cases h
  |val v ks=>cases h
  |wr v ks q' b=>
   simp only[lw,look]at h
   cases hq:Nat.beq q'.num q<;>rw[hq]at h
   ·cases h
   ·cases h;exact⟨b,rfl⟩
  |nw v ks b=>
   simp only[lw,look]at h
   cases hq:Nat.beq d.num q<;>rw[hq]at h
   ·cases h
   ·cases h;exact⟨b,rfl⟩
  |mv v ks q' b=>
   simp only[lw,look]at h
   cases hq:Nat.beq q'.num q<;>rw[hq]at h
   ·simp only[cond_false]at h
    cases hq2:Nat.beq d.num q<;>rw[hq2]at h
    ·cases h
    ·cases h;exact⟨b,rfl⟩
   ·cases h
 obtain⟨kb,rfl⟩:=hb k b h
 exact CL kb k
theorem Xh{all:List Oper}{o:Oper}{s s':S}{d:Key}{r:KR}(hks: ∀p∈r.ks,mget s.m p.1=some p.2)(hgood:r.good r.ks)(hne:r.res≠ .und)(hd:d=s.nx)(hnx:((∃v ks b,r= .nw v ks b)∨(∃v ks k b,r= .mv v ks k b))→s'.nx.num=s.nx.num+1):
  FP all o ⟨gslK all o.guard++j7 o.op.operands.toList++r.ks.map (fun p=>2*p.1.num+1),Wof o.dst (qe D r.res) (lw D d r),[],[],none⟩ s s':=by
 subst hd
 refine⟨fun ℓ hℓ=>?_,fun ℓ hℓ=>?_,fun ℓ x hx=>Il hne (fun k b h=>XC h) hx⟩
 ·simp only[q1h,List.mem_map]at hℓ
  rcases hℓ with(h|h)|⟨p,hp,rfl⟩
  ·obtain⟨t,ht⟩:=EA h;exact .inl ⟨t,ht,.inl h⟩
  ·obtain⟨t,ht⟩:=jG h;exact .inl ⟨t,ht,.inr h⟩
  ·exact .inr ⟨p.1,p.2,hks p hp,rfl⟩
 ·rcases wS hℓ with h|⟨k,rfl,h⟩
  ·exact .inl h
  ·rcases LN h with⟨v,ks,q,b,h1,rfl⟩|⟨rfl,h1⟩
   ·refine .inr ⟨q,rfl,.inl ?_⟩
    have: ∃b',(q,b')∈r.ks:=by rcases h1 with rfl|rfl<;>exact hgood.2
    obtain⟨b',hb'⟩:=this
    rw[hks _ hb'];simp
   ·exact .inr ⟨s.nx,rfl,.inr ⟨q1G _,by rw[hnx h1];omega⟩⟩
theorem V9{all:List Oper}{o:Oper}{s s':S}{f:Operand}{xs:Array Operand}{ts:Array TypeId}{g:FuncId}{vs:List V}{v:V}(hop:o.op= .call {callee:= .value f,args:=xs,argTypes:=ts})(hc:CallOk D P g vs s v s'):
  FP all o ⟨gslK all o.guard++j7 (f::xs.toList)++(ids.filter fun n=>(mblk s.m n).isSome).map (fun n=>2*n+1),Wof o.dst (qe D v) (lwA D s.m s'.m),[],[],none⟩ s s':=by
 have hops:o.op.operands.toList=f::xs.toList:=by rw[hop];simp[Op.operands,Call.operands]
 refine⟨fun ℓ hℓ=>?_,fun ℓ hℓ=>?_,fun ℓ x hx=>Il hc.ne (fun k b h=>?_) hx⟩
 ·simp only[q1h,List.mem_map,q1l]at hℓ
  rcases hℓ with(h|h)|⟨n,⟨_,hn⟩,rfl⟩
  ·obtain⟨t,ht⟩:=EA h;exact .inl ⟨t,ht,.inl h⟩
  ·obtain⟨t,ht⟩:=jG h;exact .inl ⟨t,ht,.inr (by rw[hops];exact h)⟩
  ·obtain⟨b,hb⟩:=Option.isSome_iff_exists.1 hn
   obtain⟨k,rfl,hk⟩:=vE hb
   exact .inr ⟨k,b,hk,rfl⟩
 ·rcases wS hℓ with h|⟨n,rfl,h⟩
  ·exact .inl h
  ·rw[DM]at h
   unfold chg at h
   cases hb:mblk s'.m n with
   |some b=>
    obtain⟨k,rfl,hk⟩:=vE hb
    refine .inr ⟨k,rfl,?_⟩
    rcases hc.old k (by rw[hk];simp)with h1|h1
    ·exact .inl h1
    ·exact .inr ⟨h1,hc.sok.lt k (by rw[hk];simp)⟩
   |none=>
    rw[hb]at h
    cases hb2:mblk s.m n with
    |none=>rw[hb2]at h;exact absurd rfl h
    |some b=>
     obtain⟨k,rfl,hk⟩:=vE hb2
     exact .inr ⟨k,rfl,.inl (by rw[hk];simp)⟩
 ·rw[DM]at h
  unfold chg at h
  cases hb:mblk s'.m k with
  |some b'=>rw[hb]at h;cases h;exact CL b' k
  |none=>
   rw[hb]at h
   cases hb2:mblk s.m k with
   |none=>rw[hb2]at h;cases h
   |some b'=>rw[hb2]at h;cases h
theorem Oz{E:Env}{ops:Array Oper}{i n:Nat}{o:Oper}{lo:Nat}{e:q9}{s s':S}{v:V}(ho:ops[i]?=some o)(hn:E.n=n)(hdk:vW n o=true)(hg:jf ops.toList e o.guard=some true)
  (he:EOK D E lo e s){r:KR}(hkk:KOk D P o.op o.type o.op.operands.toList (o.op.operands.toList.map (qa e)) s.m s.nx r)(hap:ap s r= .ok v s'):GoodK P E ops i ⟨gslK ops.toList o.guard++j7 o.op.operands.toList++r.ks.map (fun p=>2*p.1.num+1),Wof o.dst (qe D r.res) (lw D s.nx r),[],[],none⟩ noAl s.nx.num s'.nx.num (qm D e s.m)∧(qm D e s.m).upd (Wof o.dst (qe D r.res) (lw D s.nx r))=qm D (ji e o.dst v) s'.m∧EOK D E lo (ji e o.dst v) s'∧s.nx.num≤s'.nx.num∧FP ops.toList o ⟨gslK ops.toList o.guard++j7 o.op.operands.toList++r.ks.map (fun p=>2*p.1.num+1),Wof o.dst (qe D r.res) (lw D s.nx r),[],[],none⟩ s s'∧v=r.res∧v≠ .und∧v.ok:=by
 have hd: ∀t,o.dst=some t→t<E.n∧t<256:=fun t ht=>by
  unfold vW at hdk
  rw[ht]at hdk
  simp only[q0Q]at hdk
  rw[hn]
  exact⟨by simpa using hdk.1,by simpa using hdk.2⟩
 have hKs: ∀k∈E.Ks,k<s.nx.num:=fun k hk=>q1J (he.ks k hk) he.le
 have hfr:=Gn he.sok
 have hk:=hkk
 have ha:=hap
 obtain⟨a1,a2,a3,a4,a5,a6,a7⟩:=U7 (D:=D) ha
 obtain⟨k1,k2,k3,k4,k5,k6⟩:=hk a1 (fun x hx=>by obtain⟨y,_,rfl⟩:=List.mem_map.1 hx;exact Hf he.slots y) he.sok.ok
 subst a2
 have hmv: ∀v ks k b,r= .mv v ks k b→k≠s.nx:=by
  intro v ks k b e1 e2
  subst e1;subst e2
  obtain⟨_,b',hb'⟩:=k6
  have:=k2 _ hb'
  rw[hfr]at this;cases this
 have hle:s.nx.num≤s'.nx.num:=by
  by_cases hq:(∃v ks b,r= .nw v ks b)∨(∃v ks k b,r= .mv v ks k b)
  ·rw[a6 hq];omega
  ·rw[a7 hq];exact q1G _
 refine⟨Lp (al:=noAl) (hi:=s'.nx.num) ho hg (fun t ht=>(hd t ht).1) (fun _ _ hp=>hp.elim) (fun x hx=>k1 _ (List.mem_map.2 ⟨x,hx,rfl⟩)) k2 k6 hfr ?_ (fun hq=>by rw[a6 hq];omega) hKs,?_,?_,hle,Xh k2 k6 k5 rfl a6,rfl,k5,k4⟩
 ·intro kin h1 h2
  have:kin=jT D r.ks:=by
   unfold jT
   have key: ∀(ks:List (Key×KB))(kin:List (Nat×Blk)),(∀p∈ks,mget s.m p.1=some p.2)→kin.map (·.1)=ks.map (·.1.num)→(∀p∈kin,qm D e s.m (2*p.1+1)=some (.bl p.2)∨noAl (2*p.1+1) (XV.bl p.2))→kin=ks.map fun p=>(p.1.num,p.2.blk D):=by
    intro ks
    induction ks with
    |nil=>intro kin _ h _;cases kin with|nil=>rfl|cons _ _=>simp at h
    |cons q ks ih=>
     intro kin hq h hh
     cases kin with
     |nil=>simp at h
     |cons p kin=>
      simp only[q1g,List.cons.injEq]at h
      have h3:=hh p q1k
      rw[h.1,jH (hq q q1k)]at h3
      simp only[q27,XV.bl.injEq,noAl,or_false]at h3
      rw[q1g,←ih kin (fun p hp=>hq p (q1j _ hp)) h.2 (fun p hp=>hh p (q1j _ hp))]
      congr 1
      obtain⟨p1,p2⟩:=p
      simp only at h h3⊢
      rw[h.1,h3]
   exact key _ _ k2 h1 h2
  subst this
  rw[show(o.op.operands.toList.map fun x=>qe D (qa e x))=(o.op.operands.toList.map (qa e)).map (qe D) by rw[List.map_map];rfl]
  exact k3
 ·rw[a3];exact GK k5 (fun t ht=>(hd t ht).2) hmv
 ·refine⟨Cp (fun t ht=>(hd t ht).2) he.slots k4,⟨?_,?_,?_⟩,q1H he.le hle,he.ks,?_⟩
  ·intro k b hb
   rw[a3]at hb
   cases r with
   |bad=>exact absurd rfl a1
   |val v ks=>exact he.sok.ok k b hb
   |wr v ks k' b'=>
    simp only[apM,jr]at hb
    split at hb
    ·cases hb;exact k6.1
    ·exact he.sok.ok k b hb
   |nw v ks b'=>
    simp only[apM,jr]at hb
    split at hb
    ·cases hb;exact k6
    ·exact he.sok.ok k b hb
   |mv v ks k' b'=>
    simp only[apM,jr]at hb
    split at hb
    ·cases hb;exact k6.1
    ·split at hb
     ·cases hb
     ·exact he.sok.ok k b hb
  ·intro k hk
   rw[a3]at hk
   cases r with
   |bad=>exact absurd rfl a1
   |val v ks=>exact q1J (he.sok.lt k hk) hle
   |wr v ks k' b'=>
    simp only[apM,jr]at hk
    split at hk
    ·rename_i e1;subst e1
     obtain⟨_,b'',hb''⟩:=k6
     exact q1J (he.sok.lt k' (by rw[k2 _ hb''];simp)) hle
    ·exact q1J (he.sok.lt k hk) hle
   |nw v ks b'=>
    have h1:=a6 (.inl ⟨_,_,_,rfl⟩)
    simp only[apM,jr]at hk
    split at hk
    ·rename_i e1;subst e1;omega
    ·exact q1J (he.sok.lt k hk) hle
   |mv v ks k' b'=>
    have h1:=a6 (.inr ⟨_,_,_,_,rfl⟩)
    simp only[apM,jr]at hk
    split at hk
    ·rename_i e1;subst e1;omega
    ·split at hk
     ·exact absurd rfl hk
     ·exact q1J (he.sok.lt k hk) hle
  ·intro j p hp
   rw[a5]at hp;rw[a4];exact he.sok.agr j p hp
  ·intro k hk
   rw[a3]at hk
   cases r with
   |bad=>exact absurd rfl a1
   |val v ks=>exact he.old k hk
   |wr v ks k' b'=>
    simp only[apM,jr]at hk
    split at hk
    ·rename_i e1;subst e1
     obtain⟨_,b'',hb''⟩:=k6
     exact he.old k' (by rw[k2 _ hb''];simp)
    ·exact he.old k hk
   |nw v ks b'=>
    simp only[apM,jr]at hk
    split at hk
    ·rename_i e1;subst e1;exact .inr he.le
    ·exact he.old k hk
   |mv v ks k' b'=>
    simp only[apM,jr]at hk
    split at hk
    ·rename_i e1;subst e1;exact .inr he.le
    ·split at hk
     ·exact absurd rfl hk
     ·exact he.old k hk
theorem Mk(hrc:RcOk D P rc){E:Env}{ops:Array Oper}{i n:Nat}{o:Oper}{lo:Nat}{e:q9}{s s':S}{v:V}(ho:ops[i]?=some o)(hn:E.n=n)(hdk:vW n o=true)(hg:jf ops.toList e o.guard=some true)
  (he:EOK D E lo e s)(h:vq rc P e s o.op= .ok v s'): ∃p:PI,GoodK P E ops i p noAl s.nx.num s'.nx.num (qm D e s.m)∧(qm D e s.m).upd p.W=qm D (ji e o.dst v) s'.m∧EOK D E lo (ji e o.dst v) s'∧s.nx.num≤s'.nx.num∧FP ops.toList o p s s':=by
 have hd: ∀t,o.dst=some t→t<E.n∧t<256:=fun t ht=>by
  unfold vW at hdk
  rw[ht]at hdk
  simp only[q0Q]at hdk
  rw[hn]
  exact⟨by simpa using hdk.1,by simpa using hdk.2⟩
 have hKs: ∀k∈E.Ks,k<s.nx.num:=fun k hk=>q1J (he.ks k hk) he.le
 have hfr:=Gn he.sok
 have main: ∀{r:KR},KOk D P o.op o.type o.op.operands.toList (o.op.operands.toList.map (qa e)) s.m s.nx r→ap s r= .ok v s'→ ∃p:PI,GoodK P E ops i p noAl s.nx.num s'.nx.num (qm D e s.m)∧(qm D e s.m).upd p.W=qm D (ji e o.dst v) s'.m∧EOK D E lo (ji e o.dst v) s'∧s.nx.num≤s'.nx.num∧FP ops.toList o p s s':=by
  intro r hk ha
  obtain⟨q1,q2,q3,q4,q5,_⟩:=Oz ho hn hdk hg he hk ha
  exact⟨_,q1,q2,q3,q4,q5⟩
 unfold vq at h
 split at h
 ·rename_i f xs ts hop
  unfold kcall at h
  split at h
  ·rename_i g ps hcal
   cases ha:A6 (evs e xs.toList)with
   |false=>rw[ha]at h;cases h
   |true=>
    rw[ha]at h
    have hne: ∀x∈xs.toList,qa e x≠ .und:=fun x hx=>by
     have:=(List.all_eq_true.1 ha) (qa e x) (List.mem_map.2 ⟨x,hx,rfl⟩)
     exact vK (by simpa using this)
    have hc:=hrc _ _ _ _ _ h (fun x hx=>by
     rcases q1h.1 hx with hx|hx
     ·obtain⟨y,hy,rfl⟩:=List.mem_map.1 hx
      exact⟨Hf he.slots y,hne y hy⟩
     ·obtain⟨p,_,rfl⟩:=List.mem_map.1 hx
      exact⟨trivial,by simp⟩) he.sok
    refine⟨_,QJ ho hop hg (fun t ht=>(hd t ht).1) hcal hne hc (fun k b hb=>hb) hKs,RZ hc.ne (fun t ht=>(hd t ht).2),?_,hc.le,V9 hop hc⟩
    refine⟨Cp (fun t ht=>(hd t ht).2) he.slots hc.ok,hc.sok,q1H he.le hc.le,he.ks,fun k hk=>?_⟩
    rcases hc.old k hk with h1|h1
    ·exact he.old k h1
    ·exact .inr (q1H he.le h1)
  ·cases h
 ·exact main (LG o.op) h
theorem JU(hrc:RcOk D P rc){E:Env}{ops:Array Oper}{n lo U:Nat}(hn:E.n=n)(hds: ∀o∈ops.toList,vW n o=true): ∀(l:List Oper)(i:Nat)(e:q9)(s:S)(x:X)(e':q9)(s':S),l=ops.toList.drop i→
  wD rc P ops.toList l e s= .ok x e' s'→EOK D E lo e s→s'.nx.num≤U→x= .nrm∧EOK D E lo e' s'∧s.nx.num≤s'.nx.num∧
   ∀a w H β,Rel D E lo U e s a w H β→wpOps P ops (Dl D E lo U .nrm e' s') (List.range' i (ops.size-i)) a w
 |[],i,e,s,x,e',s',hl,h,he,hU=>by
  cases h
  have hi:ops.size≤i:=by
   have:=congrArg List.length hl
   simp at this;omega
  refine⟨rfl,he,q1G _,fun a w H β hr=>?_⟩
  rw[show ops.size-i=0 by omega]
  exact⟨rfl,H,β,hr⟩
 |o::r,i,e,s,x,e',s',hl,h,he,hU=>by
  have hi:i<ops.size:=by
   rcases q1K i ops.size with h'|h'
   ·exact h'
   ·rw[q0Y (by simpa using h')]at hl;cases hl
  have ho':ops.toList[i]?=some o:=by
   have:=congrArg List.head? hl
   simpa[List.head?_drop]using this.symm
  have ho:ops[i]?=some o:=by simpa using ho'
  have hr':r=ops.toList.drop (i+1):=by
   have:=congrArg List.tail hl
   simpa[List.tail_drop]using this
  have hom:o∈ops.toList:=q1m ho'
  have hdk:=hds o hom
  have hd: ∀t,o.dst=some t→t<E.n∧t<256:=fun t ht=>by
   unfold vW at hdk
   rw[ht]at hdk
   simp only[q0Q]at hdk
   rw[hn]
   exact⟨by simpa using hdk.1,by simpa using hdk.2⟩
  have hrange:List.range' i (ops.size-i)=i::List.range' (i+1) (ops.size-(i+1)):=by
   rw[show ops.size-i=(ops.size-(i+1))+1 by omega];rfl
  --one step
  have step: ∀{p:PI}{e1:q9}{s1:S},GoodK P E ops i p noAl s.nx.num s1.nx.num (qm D e s.m)→(qm D e s.m).upd p.W=qm D e1 s1.m→EOK D E lo e1 s1→s.nx.num≤s1.nx.num→wD rc P ops.toList r e1 s1= .ok x e' s'→
    x= .nrm∧EOK D E lo e' s'∧s.nx.num≤s'.nx.num∧ ∀a w H β,Rel D E lo U e s a w H β→wpOps P ops (Dl D E lo U .nrm e' s') (List.range' i (ops.size-i)) a w:=by
   intro p e1 s1 hG hW he1 hle hrun
   obtain⟨r1,r2,r3,r4⟩:=JU hrc hn hds r (i+1) e1 s1 x e' s' hr' hrun he1 hU
   refine⟨r1,r2,q1H hle r3,fun a w H β hrel=>?_⟩
   rw[hrange,wpOps_cons]
   refine hG _ (Mw e s.m) (fun ℓ _=> .inl rfl) a w H β _ _ hrel.rep (fun k h1 h2=>hrel.dom k h1 (by omega)) ?_
   intro a' w' H' β' hrep' hβ
   rw[hW]at hrep'
   refine r4 a' w' H' β' ⟨hrep',fun k h1 h2=>?_,fun k hk=>?_⟩
   ·rw[hβ k (.inr h1)];exact hrel.dom k (by omega) h2
   ·have:k<s.nx.num∨s1.nx.num≤k:=by
     rcases hk with hk|hk
     ·exact .inl (q1J hk he.le)
     ·exact .inr hk
    rw[hβ k this]
    refine hrel.bet k ?_
    rcases hk with hk|hk
    ·exact .inl hk
    ·exact .inr (by omega)
  have h2: @Option.rec Bool (fun _=>R) (.no [6]) (fun g=> @Bool.rec (fun _=>R) (wD rc P ops.toList r (ji e o.dst (.tu [])) s)
   (@RO.rec (fun _=>R) (fun v s'=>wD rc P ops.toList r (ji e o.dst v) s') (fun t=> .no (r.length::t)) (fun n=> .need n) (vq rc P e s o.op)) g) (jf ops.toList e o.guard)= .ok x e' s':=h
  cases hg:jf ops.toList e o.guard with
  |none=>rw[hg]at h2;cases h2
  |some g=>
   rw[hg]at h2
   cases g with
   |false=>
    have hW:(qm D e s.m).upd (Wof o.dst (qe D (.tu [])) [])=qm D (ji e o.dst (.tu [])) s.m:=by
     have:=GK (D:=D) (e:=e) (m:=s.m) (d:=s.nx) (r:= .val (.tu []) []) (dst:=o.dst) (v:= .tu []) (by simp) (fun t ht=>(hd t ht).2) (fun _ _ _ _ h=>by cases h)
     exact this
    exact step (Jw ho hg (fun t ht=>(hd t ht).1)) hW ⟨Cp (fun t ht=>(hd t ht).2) he.slots (fun x hx=>by simp at hx),he.sok,he.le,he.ks,he.old⟩ (q1G _) h2
   |true=>
    simp only at h2
    cases hop:vq rc P e s o.op with
    |no t=>rw[hop]at h2;cases h2
    |need n=>rw[hop]at h2;cases h2
    |ok v s1=>
     rw[hop]at h2
     obtain⟨p,g1,g2,g3,g4,_⟩:=Mk hrc ho hn hdk hg he hop
     exact step g1 g2 g3 g4 h2
end
end
noncomputable section
def Vl(r:KR):Prop:=r= .bad∨ ∃v,r= .val v []
def Nw(r:KR):Prop:=r= .bad∨ ∃v b,r= .nw v [] b
theorem Vl.bad:Vl .bad:= .inl rfl
theorem Vl.val(v:V):Vl (.val v []):= .inr ⟨v,rfl⟩
theorem Vl.rc{a b:KR}{c:Bool}(ha:Vl a)(hb:Vl b):Vl (@Bool.rec (fun _=>KR) a b c):=by cases c;exact ha;exact hb
theorem Nw.bad:Nw .bad:= .inl rfl
theorem Nw.nw(v:V)(b:KB):Nw (.nw v [] b):= .inr ⟨v,b,rfl⟩
theorem Nw.rc{a b:KR}{c:Bool}(ha:Nw a)(hb:Nw b):Nw (@Bool.rec (fun _=>KR) a b c):=by cases c;exact ha;exact hb
section
variable {P:Program} {e:q9} {m:qM} {d:Key}
theorem OM{v:V}:Vl (AK v):=by unfold AK;exact Vl.rc (Vl.val _) Vl.bad
theorem Sb{v:V}:Vl (retV v):=by unfold retV;split;exact Vl.bad;exact Vl.val _
theorem Z5{op:BinOp}{t:TypeId}{x y:V}:Vl (kNil P op t x y):=by
 unfold kNil kAg
 repeat' first|exact Vl.bad|exact Sb|apply Vl.rc|split
theorem Dh{op:BinOp}{t:TypeId}{x y:V}:Vl (kBin P op t x y):=by
 unfold kBin
 repeat' first|exact Vl.bad|exact Z5|exact Sb|apply Vl.rc|split
theorem UF{op:UnOp}{v:V}:Vl (kUn P op v):=by
 unfold kUn
 repeat' first|exact Vl.bad|exact Vl.val _|apply Vl.rc|split
theorem MC{s:TypeId}{f:Nat}{p:V}:Vl (jK P s f p):=by
 unfold jK
 repeat' first|exact Vl.bad|exact Vl.val _|apply Vl.rc|split
theorem MF{t:TypeId}{p i:V}:Vl (jL P t p i):=by
 unfold jL
 repeat' first|exact Vl.bad|exact Vl.val _|apply Vl.rc|split
theorem Q2{v:V}{i:Nat}:Vl (wN v i):=by
 unfold wN
 repeat' first|exact Vl.bad|exact Vl.val _|apply Vl.rc|split
theorem MA{t:TypeId}{is:List Nat}{vs:List V}:Vl (BQ P t is vs):=by
 unfold BQ
 repeat' first|exact Vl.bad|exact Vl.val _|apply Vl.rc|split
theorem ON{a b c:V}:Vl (Ce a b c):=by
 unfold Ce
 repeat' first|exact Vl.bad|exact Vl.val _|apply Vl.rc|split
theorem J5{s t:TypeId}{v:V}:Vl (Cd P s t v):=by
 unfold Cd
 repeat' first|exact Vl.bad|exact Vl.val _|apply Vl.rc|split
theorem C2{t:TypeId}{x:V}{lo hi:Option V}:Vl (zf P t x lo hi):=by
 unfold zf IE
 repeat' first|exact Vl.bad|exact Vl.val _|apply Vl.rc|split
theorem Nk{v:V}:Vl (zV v):=by
 unfold zV
 repeat' first|exact Vl.bad|exact Vl.val _|apply Vl.rc|split
theorem OL{fn:Fn}{fs:Array Operand}{vs:List V}:Vl (AJ fn fs vs):=by
 unfold AJ
 repeat' first|exact Vl.bad|exact Vl.val _|apply Vl.rc|split
theorem S9{g:Bool}{s:Nat}{v:V}{o:Nat}:Vl (ldS g s v o []):=by
 unfold ldS
 repeat' first|exact Vl.bad|exact Vl.val _|apply Vl.rc|split
theorem MB{s:TypeId}{f:Nat}{x:V}:Vl (BR P s f x):=by
 unfold BR
 repeat' first|exact Vl.bad|exact S9|apply Vl.rc|split
theorem MD{t:TypeId}{x i:V}:Vl (BS P t x i):=by
 unfold BS Fu Ft
 repeat' first|exact Vl.bad|exact Vl.val _|exact S9|apply Vl.rc|split
theorem MG{t:TypeId}{v:V}:Vl (kLen P t v):=by
 unfold kLen
 repeat' first|exact Vl.bad|exact Vl.val _|apply Vl.rc|split
theorem Z4{t:TypeId}{v:V}:Vl (kCap P t v):=by
 unfold kCap
 repeat' first|exact Vl.bad|exact Vl.val _|apply Vl.rc|split
theorem Sa{b:Bool}{x y:V}:Vl (wW b x y):=by
 unfold wW
 repeat' first|exact Vl.bad|exact Vl.val _|apply Vl.rc|split
theorem Qn(op:Op):cls P op≤3:=by
 unfold cls
 split<;>first|omega|(split<;>omega)
theorem kop0{op:Op}(h:cls P op=0):Vl (kop P e m d op):=by
 cases op with
 |move x=>exact OM
 |assign x=>exact OM
 |binOp op t x y t'=>exact Dh
 |unOp op t x=>exact UF (P:=P)
 |fieldAddr s x f=>exact MC
 |indexAddr t x y=>exact MF
 |extract x i=>exact Q2
 |build t ps=>exact MA
 |pick c x y=>exact ON
 |makeMap t r=>cases r<;>cases h
 |convert s t x=>
  show Vl (zF P m s t (qa e x))
  unfold zF
  simp only[cls]at h
  split at h
  ·rename_i k hk;first|exact J5|(rw[hk];exact J5)
  ·cases h
 |slice t x lo hi mx=>
  cases mx with
  |none=>exact C2
  |some z=>exact Vl.bad
 |nilCheck x=>exact Nk
 |makeFunc fn fs cs=>exact OL
 |field s x f=>exact MB
 |index t x y=>exact MD
 |call c=>
  obtain⟨cl,xs,ts⟩:=c
  cases cl with
  |builtin b=>
   show Vl (vM P b ts.toList (evs e xs.toList) m d)
   unfold vM
   cases b<;>first|(exfalso;revert h;simp[cls];done)|skip
   all_goals simp only
   all_goals split<;>first|exact Vl.bad|exact MG|exact Z4|exact Sa
  |_=>cases h
 |_=>cases h
theorem kop1{op:Op}(h:cls P op=1):Nw (kop P e m d op):=by
 cases op with
 |makeMap t r=>
  cases r with
  |none=>show Nw (At P t d);unfold At;split<;>first|exact Nw.nw _ _|exact Nw.bad
  |some z=>cases h
 |convert s t x=>simp only[cls]at h;split at h<;>cases h
 |alloc t=>show Nw (BP P t d);unfold BP;exact Nw.rc (Nw.nw _ _) Nw.bad
 |box t x=>show Nw (kBox d (qa e x));unfold kBox;exact Nw.rc Nw.bad (Nw.nw _ _)
 |buildSlice t n ps=>
  show Nw (vD P t n _ _ d)
  unfold vD
  repeat' first|exact Nw.bad|exact Nw.nw _ _|apply Nw.rc|split
 |makeSlice t x y=>
  show Nw (z0 P t _ _ d)
  unfold z0
  repeat' first|exact Nw.bad|exact Nw.nw _ _|apply Nw.rc|split
 |call c=>
  obtain⟨cl,xs,ts⟩:=c
  cases cl with
  |builtin b=>exfalso;revert h;cases b<;>simp[cls]
  |_=>cases h
 |_=>cases h
theorem kop2{op:Op}(h:cls P op=2): ∃t x,op= .load t x:=by
 cases op with
 |makeMap t r=>cases r<;>cases h
 |convert s t x=>simp only[cls]at h;split at h<;>cases h
 |load t x=>exact⟨t,x,rfl⟩
 |call c=>
  obtain⟨cl,xs,ts⟩:=c
  cases cl with
  |builtin b=>exfalso;revert h;cases b<;>simp[cls]
  |_=>cases h
 |_=>cases h
theorem RH{rc:FuncId→List V→S→RO}{s:S}{op:Op}(h:cls P op<3):vq rc P e s op=ap s (kop P e s.m s.nx op):=by
 cases op with
 |call c=>
  obtain⟨cl,xs,ts⟩:=c
  cases cl with
  |value f=>exact absurd h (Nat.lt_irrefl 3)
  |builtin b=>rfl
  |_=>exact absurd h (Nat.lt_irrefl 3)
 |_=>rfl
def ptrK(p:V):Option Key:=match p with| .pp k _=>some k| .ee k _ _ _=>some k|_=>none
theorem QY{t:TypeId}{v:V}{o:Nat}{ks:List (Key×KB)}:ldV P t v o ks= .bad∨ ∃w,ldV P t v o ks= .val w ks:=by
 unfold ldV
 split
 ·rename_i g s _
  unfold ldG
  cases hc:Nat.beq o 0&&Nat.beq s v.size&&xorB g v.on with
  |true=>exact .inr ⟨v,rfl⟩
  |false=>
   simp only
   unfold ldS
   split
   ·split
    ·exact .inl rfl
    ·exact .inr ⟨_,rfl⟩
   ·exact .inl rfl
 ·exact .inl rfl
theorem CB{t:TypeId}{p:V}(h:(j4 P m t p).res≠ .und): ∃k b,ptrK p=some k∧mget m k=some b∧j4 P m t p= .val (j4 P m t p).res [(k,b)]:=by
 have key: ∀{k:Key}{b:KB}{v:V}{o:Nat}{r:KR},r=ldV P t v o [(k,b)]→r.res≠ .und→r= .val r.res [(k,b)]:=by
  intro k b v o r hr hne
  rcases QY (P:=P) (t:=t) (v:=v) (o:=o) (ks:=[(k,b)])with h|⟨w,h⟩
  ·rw[h]at hr;subst hr;exact absurd rfl hne
  ·rw[h]at hr;subst hr;rfl
 unfold j4 at h⊢
 split at h
 ·rename_i k o
  split at h
  ·rename_i v hb
   exact⟨k,_,rfl,hb,key rfl h⟩
  ·exact absurd rfl h
 ·rename_i k i o w
  split at h
  ·rename_i es n q hb
   cases hc:Nat.beq w es&&Nat.blt i n with
   |false=>rw[hc]at h;exact absurd rfl h
   |true=>rw[hc]at h;exact⟨k,_,rfl,hb,key rfl h⟩
  ·rename_i es n q hb
   cases hc:Nat.beq w es&&Nat.blt i n with
   |false=>rw[hc]at h;exact absurd rfl h
   |true=>rw[hc]at h;exact⟨k,_,rfl,hb,key rfl h⟩
  ·exact absurd rfl h
 ·exact absurd rfl h
theorem wk: ∀(z:List Key)(m:qM)(k:Key),mget (rmK m z) k=if k∈z then none else mget m k
 |[],m,k=>by simp[rmK]
 |a::z,m,k=>by
  have:=wk z (mset m a none) k
  show mget (rmK (mset m a none) z) k=_
  rw[this,jr]
  by_cases h1:k∈z
  ·simp[h1]
  ·by_cases h2:a=k
   ·subst h2;simp
   ·have: ¬k=a:=fun h=>h2 h.symm
    simp[h1,h2,this]
theorem Av(m0:qM): ∀(z:List Key)(m:qM)(k:Key),mget (reK m0 m z) k=if k∈z∧mget m0 k≠none then mget m0 k else mget m k
 |[],m,k=>by simp[reK]
 |a::z,m,k=>by
  cases ha:mget m0 a with
  |none=>
   have e1:reK m0 m (a::z)=reK m0 m z:=by unfold reK;rw[List.foldl_cons,ha]
   rw[e1,Av m0 z m k]
   by_cases h2:k=a
   ·subst h2;simp[ha]
   ·simp[h2]
  |some b=>
   have e1:reK m0 m (a::z)=reK m0 (mset m a (some b)) z:=by unfold reK;rw[List.foldl_cons,ha]
   rw[e1,Av m0 z _ k,jr]
   by_cases h2:a=k
   ·subst h2;simp[ha]
   ·have h3: ¬k=a:=fun h=>h2 h.symm
    simp[h2,h3]
end
theorem CH: ∀{l:List Operand}{ℓ:Nat},ℓ∈j7 l→ ∃t,ℓ=2*t∧Operand.tmp t∈l
 |[],ℓ,h=>by simp[j7]at h
 |x::l,ℓ,h=>by
  cases x with
  |tmp t=>
   simp only[j7,q1i]at h
   rcases h with h|h
   ·exact⟨t,h,by simp⟩
   ·obtain⟨t',h1,h2⟩:=CH h;exact⟨t',h1,by simp[h2]⟩
  |_=>
   simp only[j7]at h
   obtain⟨t',h1,h2⟩:=CH h;exact⟨t',h1,by simp[h2]⟩
theorem BN{all:List Oper}{o:Oper}{ℓ:Nat}(h:ℓ∈gslK all o.guard): ∃t,ℓ=2*t∧t∈slB all o:=by
 unfold gslK at h
 split at h
 ·simp at h
 ·rename_i j w hg
  split at h
  ·rename_i t ht
   simp at h
   refine⟨t,h,?_⟩
   unfold slB
   rw[hg]
   simp only[q1h]
   refine .inr ?_
   cases ha:all[j]? with
   |none=>rw[ha]at ht;cases ht
   |some o'=>
    rw[ha]at ht
    have:qz all j=o':=by simp[qz,q12,ha]
    rw[this]
    have ht:o'.dst=some t:=ht
    rw[ht];simp
  ·simp at h
theorem Cq{all:List Oper}{o:Oper}{ℓ:Nat}(h:ℓ∈j7 o.op.operands.toList): ∃t,ℓ=2*t∧t∈slB all o:=by
 obtain⟨t,h1,h2⟩:=CH h
 refine⟨t,h1,?_⟩
 unfold slB
 exact q1h.2 (.inl (List.mem_filterMap.2 ⟨_,h2,rfl⟩))
theorem GoodK.congr{P:Program}{E:Env}{ops:Array Oper}{i:Nat}{p:PI}{al:Nat→XV→Prop}{lo hi:Nat}{σ σ':FS}(h:GoodK P E ops i p al lo hi σ)(he: ∀ℓ∈p.rd,σ' ℓ=σ ℓ):GoodK P E ops i p al lo hi σ':=
 fun τ hs hτ=>h τ hs fun ℓ hℓ=>by rw[←he ℓ hℓ];exact hτ ℓ hℓ
theorem GoodK.hi{P:Program}{E:Env}{ops:Array Oper}{i:Nat}{p:PI}{al:Nat→XV→Prop}{lo hi hi':Nat}{σ:FS}(h:GoodK P E ops i p al lo hi σ)(hh:hi=hi'):GoodK P E ops i p al lo hi' σ:=hh▸h
structure SI (D : List Int) (P : Program) (E : Env) (ops : Array Oper) (i : Nat) (o : Oper) (e : q9) (s : S) (e1 : q9) (s1 : S) (z : List Key) (p : PI) (al : Nat → XV → Prop) : Prop where
 good : GoodK P E ops i p al s.nx.num s1.nx.num (qm D e s.m)
 upd : (qm D e s.m).upd p.W = qm D e1 s1.m
 rd : ∀ ℓ ∈ p.rd, (∃ t, ℓ = 2 * t ∧ t ∈ slB ops.toList o) ∨ ∃ k b, mget (rmK s.m z) k = some b ∧ ℓ = 2 * k.num + 1 ∧ 2 ≤ cls P o.op ∧
  (cls P o.op = 2 → jf ops.toList e o.guard = some true ∧ ∃ t x, o.op = .load t x ∧ ptrK (qa e x) = some k ∧
   ∀ (m' : qM) b' w, (∀ k b, mget m' k = some b → b.ok) → (j4 P (rmK s.m z) t (qa e x)).res = w → w ≠ .und → (j4 P m' t (qa e x)).res = w → mget m' k = some b' → al ℓ (.bl (b'.blk D)))
 wr : ∀ ℓ, look p.W ℓ ≠ none → (∃ t, o.dst = some t ∧ ℓ = 2 * t) ∨ ∃ k : Key, ℓ = 2 * k.num + 1 ∧ ((cls P o.op = 1 ∧ k = s.nx ∧ s1.nx.num = s.nx.num + 1) ∨ (cls P o.op = 3 ∧ (mget (rmK s.m z) k ≠ none ∨ (s.nx.num ≤ k.num ∧ k.num < s1.nx.num))))
 str : ∀ ℓ x, look p.W ℓ = some (some x) → XStr ℓ x
section
variable {D:List Int} {P:Program} {rc:FuncId→List V→S→RO}
theorem mem1{α β:Type}{f:α→Nat}{a:α}{kin:List (Nat×β)}(h:kin.map (·.1)=[f a]): ∃b,kin=[(f a,b)]:=by
 match kin,h with
 |[(x,b)],h=>simp at h;subst h;exact⟨b,rfl⟩
theorem J1 (hrc : RcOk D P rc) {E : Env} {ops : Array Oper} {i n : Nat} {o : Oper} {lo : Nat} {e e1 : q9} {s s1 : S} {z : List Key} (ho : ops[i]? = some o) (hn : E.n = n) (hdk : vW n o = true) (he : EOK D E lo e s)
  (h : Cs rc P ops.toList z o e s e1 s1) : EOK D E lo e1 s1 ∧ s.nx.num ≤ s1.nx.num ∧ ∃ p al, SI D P E ops i o e s e1 s1 z p al := by
 have hd : ∀ t, o.dst = some t → t < E.n ∧ t < 256 := fun t ht => by
  unfold vW at hdk
  rw [ht] at hdk
  simp only [q0Q] at hdk
  rw [hn]
  exact ⟨by simpa using hdk.1, by simpa using hdk.2⟩
 rcases h with ⟨hg, rfl, rfl⟩ | ⟨hg, v, s2, hrun, rfl, rfl⟩
 ·have hW : (qm D e s1.m).upd (Wof o.dst (qe D (.tu [])) []) = qm D (ji e o.dst (.tu [])) s1.m := by
   have := GK (D := D) (e := e) (m := s1.m) (d := s1.nx) (r := .val (.tu []) []) (dst := o.dst) (v := .tu []) (by simp) (fun t ht => (hd t ht).2) (fun _ _ _ _ h => by cases h)
   exact this
  refine ⟨⟨Cp (fun t ht => (hd t ht).2) he.slots (fun x hx => by simp at hx), he.sok, he.le, he.ks, he.old⟩, q1G _, _, noAl, Jw ho hg (fun t ht => (hd t ht).1), hW, fun ℓ hℓ => .inl (BN hℓ), fun ℓ hℓ => ?_, fun ℓ x hx => Il (D := D) (by simp) (fun k b h => by cases h) hx⟩
  rcases wS hℓ with h | ⟨k, _, h⟩
  ·exact .inl h
  ·exact absurd rfl h
 ·-- the memory that is seen
  have hz : EOK D E lo e ⟨rmK s.m z, s.nx, s.dn, s.sc⟩ := by
   refine ⟨he.slots, ⟨fun k b hb => ?_, fun k hk => ?_, he.sok.agr⟩, he.le, he.ks, fun k hk => ?_⟩
   ·rw [wk] at hb
    split at hb
    ·cases hb
    ·exact he.sok.ok k b hb
   ·rw [wk] at hk
    split at hk
    ·exact absurd rfl hk
    ·exact he.sok.lt k hk
   ·rw [wk] at hk
    split at hk
    ·exact absurd rfl hk
    ·exact he.old k hk
  have hseen : ∀ k b, mget (rmK s.m z) k = some b → mget s.m k = some b := fun k b hb => by
   rw [wk] at hb
   split at hb
   ·cases hb
   ·exact hb
  have hpres : ∀ k, k ∈ z → mget s.m k ≠ none → k.num < s.nx.num := fun k _ hk => he.sok.lt k hk
  -- the end
  have hend : ∀ (p : PI), (qm D e (rmK s.m z)).upd p.W = qm D (ji e o.dst v) s2.m → FP ops.toList o p ⟨rmK s.m z, s.nx, s.dn, s.sc⟩ s2 → (qm D e s.m).upd p.W = qm D (ji e o.dst v) (reK s.m s2.m z) := by
   intro p hp hf
   funext ℓ
   have h1 := congrFun hp ℓ
   rcases q1O ℓ with h2 | h2
   ·obtain ⟨t, rfl⟩ : ∃ t, ℓ = 2 * t := ⟨ℓ / 2, by omega⟩
    rw [qA] at h1 ⊢
    rw [← h1]
    unfold FS.upd
    split
    ·rfl
    ·rw [qA, qA]
   ·obtain ⟨q, rfl⟩ : ∃ q, ℓ = 2 * q + 1 := ⟨ℓ / 2, by omega⟩
    rw [qh] at h1 ⊢
    by_cases hq : ∃ k : Key, k.num = q
    ·obtain ⟨k, rfl⟩ := hq
     rw [v7] at h1 ⊢
     rw [Av]
     by_cases hk : k ∈ z ∧ mget s.m k ≠ none
     ·rw [if_pos hk]
      have hnone : look p.W (2 * k.num + 1) = none := by
       cases hl : look p.W (2 * k.num + 1) with
       | none => rfl
       | some x =>
        rcases hf.wr _ (by rw [hl]; simp) with ⟨t, _, h3⟩ | ⟨k', h3, h4⟩
        ·omega
        ·have e3 : k' = k := Key.num_inj (by omega)
         subst e3
         rcases h4 with h4 | ⟨h4, _⟩
         ·simp only [wk, hk.1, if_true] at h4; exact absurd rfl h4
         ·have := hpres k' hk.1 hk.2; simp only at h4; omega
      simp only [FS.upd, hnone]
      rw [qh, v7]
     ·rw [if_neg hk, ← h1]
      unfold FS.upd
      split
      ·rfl
      ·rw [qh, qh, v7, v7, wk]
       split
       ·rename_i hkz
        have : mget s.m k = none := by
         cases hm : mget s.m k with
         | none => rfl
         | some b => exact absurd ⟨hkz, by rw [hm]; simp⟩ hk
        rw [this]
       ·rfl
    ·have hno : ∀ m : qM, mblk m q = none := fun m => by unfold mblk; rw [dif_neg hq]
     rw [hno] at h1 ⊢
     rw [← h1]
     unfold FS.upd
     split
     ·rfl
     ·rw [qh, qh, hno, hno]
  have heok : EOK D E lo (ji e o.dst v) s2 → s.nx.num ≤ s2.nx.num → EOK D E lo (ji e o.dst v) ⟨reK s.m s2.m z, s2.nx, s2.dn, s2.sc⟩ := by
   intro h2 hle
   refine ⟨h2.slots, ⟨fun k b hb => ?_, fun k hk => ?_, h2.sok.agr⟩, h2.le, h2.ks, fun k hk => ?_⟩
   ·simp only [Av] at hb
    split at hb
    ·exact he.sok.ok k b hb
    ·exact h2.sok.ok k b hb
   ·simp only [Av] at hk
    split at hk
    ·have := he.sok.lt k hk; simp only; omega
    ·exact h2.sok.lt k hk
   ·simp only [Av] at hk
    split at hk
    ·exact he.old k hk
    ·exact h2.old k hk
  have hrdc : ∀ (p : PI), FP ops.toList o p ⟨rmK s.m z, s.nx, s.dn, s.sc⟩ s2 → ∀ ℓ ∈ p.rd, qm D e s.m ℓ = qm D e (rmK s.m z) ℓ := by
   intro p hf ℓ hℓ
   rcases hf.rd ℓ hℓ with ⟨t, rfl, _⟩ | ⟨k, b, hb, rfl⟩
   ·rw [qA, qA]
   ·rw [qh, qh, v7, v7, hb, hseen k b hb]
  rcases q1K (cls P o.op) 3 with hc | hc
  ·rw [RH hc] at hrun
   have hkk : KOk D P o.op o.type o.op.operands.toList (o.op.operands.toList.map (qa e)) (rmK s.m z) s.nx (kop P e (rmK s.m z) s.nx o.op) := LG o.op
   obtain ⟨q1, q2, q3, q4, q5, q6, q7, q8⟩ := Oz (s := ⟨rmK s.m z, s.nx, s.dn, s.sc⟩) ho hn hdk hg hz hkk hrun
   have h3 := heok q3 q4
   by_cases hc2 : cls P o.op = 2
   ·-- a load
    obtain ⟨t, x, hop⟩ := kop2 hc2
    have hkl : kop P e (rmK s.m z) s.nx o.op = j4 P (rmK s.m z) t (qa e x) := by rw [hop]; rfl
    have hres : (j4 P (rmK s.m z) t (qa e x)).res ≠ .und := by rw [← hkl, ← q6]; exact q7
    obtain ⟨k, b, hpk, hmk, hsh⟩ := CB hres
    have hkv : kop P e (rmK s.m z) s.nx o.op = .val v [(k, b)] := by rw [hkl, hsh, q6, hkl]
    have hval : ap ⟨rmK s.m z, s.nx, s.dn, s.sc⟩ (kop P e (rmK s.m z) s.nx o.op) = .ok v ⟨rmK s.m z, s.nx, s.dn, s.sc⟩ := by rw [hkv]; rfl
    rw [hval] at hrun
    have hs2 : s2 = ⟨rmK s.m z, s.nx, s.dn, s.sc⟩ := by injection hrun with h1 h2; exact h2.symm
    rw [hkv] at q2 q5
    let al : Nat → XV → Prop := fun ℓ X => ∃ (m' : qM) (b' : KB), (∀ k b, mget m' k = some b → b.ok) ∧ j4 P m' t (qa e x) = .val v [(k, b')] ∧ ℓ = 2 * k.num + 1 ∧ X = .bl (b'.blk D)
    have hopk : ∀ (m' : qM) (b' : KB), (∀ k b, mget m' k = some b → b.ok) → j4 P m' t (qa e x) = .val v [(k, b')] →
      OpK P o.op o.type (List.zip o.op.operands.toList (o.op.operands.toList.map fun x => qe D (qa e x))) [(k.num, b'.blk D)] (qe D v) [] s.nx.num := by
     intro m' b' hm' hl
     have hk2 : KOk D P o.op o.type o.op.operands.toList (o.op.operands.toList.map (qa e)) m' s.nx (kop P e m' s.nx o.op) := LG o.op
     have e2 : kop P e m' s.nx o.op = .val v [(k, b')] := by rw [← hl, hop]; rfl
     rw [e2] at hk2
     obtain ⟨_, _, k3, _, _, _⟩ := hk2 (by simp) (fun y hy => by obtain ⟨w, _, rfl⟩ := List.mem_map.1 hy; exact Hf hz.slots w) hm'
     rw [show (o.op.operands.toList.map fun x => qe D (qa e x)) = (o.op.operands.toList.map (qa e)).map (qe D) by rw [List.map_map]; rfl]
     exact k3
    have hbase : j4 P (rmK s.m z) t (qa e x) = .val v [(k, b)] := by rw [← hkl]; exact hkv
    have hfr := Gn hz.sok
    obtain ⟨k1, _, _, _, _, _⟩ := hkk (by rw [hkv]; simp) (fun y hy => by obtain ⟨w, _, rfl⟩ := List.mem_map.1 hy; exact Hf hz.slots w) hz.sok.ok
    have hgood := Lp (D := D) (E := E) (al := al) (hi := s2.nx.num) (d := s.nx) (r := .val v [(k, b)]) ho hg (fun t ht => (hd t ht).1) (fun ℓ X ⟨_, _, _, _, h, _⟩ => by omega) (fun y hy => k1 _ (List.mem_map.2 ⟨y, hy, rfl⟩)) (m := rmK s.m z) (fun p hp => by simp [KR.ks] at hp; subst hp; exact hmk) trivial hfr
     (fun kin h1 h2 => by
      obtain ⟨B, rfl⟩ := mem1 (f := Key.num) (a := k) (by simpa [KR.ks] using h1)
      rcases h2 (k.num, B) (by simp) with h3 | ⟨m', b', h3, h4, _, h5⟩
      ·rw [jH hmk] at h3
       simp only [q27, XV.bl.injEq] at h3
       subst h3
       exact hopk _ b hz.sok.ok hbase
      ·simp only [XV.bl.injEq] at h5
       subst h5
       exact hopk m' b' h3 h4)
     (fun hq => by rcases hq with ⟨_, _, _, h⟩ | ⟨_, _, _, _, h⟩ <;> cases h) (fun k hk => q1J (he.ks k hk) he.le)
    refine ⟨h3, by rw [hs2]; exact q1G _, _, al, hgood.congr (hrdc _ q5), hend _ q2 q5, fun ℓ hℓ => ?_, fun ℓ hℓ => ?_, q5.str⟩
    ·rcases q5.rd ℓ hℓ with ⟨t', rfl, h4⟩ | ⟨k', b', hb', rfl⟩
     ·rcases h4 with h4 | h4
      ·exact .inl (BN h4)
      ·exact .inl (Cq h4)
     ·have hk' : k' = k := by
       simp only [q1h, KR.ks, q1g, List.map_nil, q1o] at hℓ
       rcases hℓ with (h4 | h4) | h4
       ·obtain ⟨t', ht⟩ := EA h4; omega
       ·obtain ⟨t', ht⟩ := jG h4; omega
       ·exact Key.num_inj (by omega)
      subst hk'
      refine .inr ⟨k', b', hb', rfl, by omega, fun _ => ⟨hg, t, x, hop, hpk, fun m' b2 w hm' hw hwn hl hmb => ?_⟩⟩
      have hwv : w = v := by rw [← hw, hbase]; rfl
      subst hwv
      obtain ⟨k3, b3, g1, g2, g3⟩ := CB (by rw [hl]; exact hwn)
      rw [hpk] at g1; cases g1
      rw [hmb] at g2; cases g2
      exact ⟨m', b2, hm', by rw [g3, hl], rfl, rfl⟩
    ·rcases wS hℓ with h4 | ⟨q, _, h4⟩
     ·exact .inl h4
     ·exact absurd rfl h4
   ·by_cases hc1 : cls P o.op = 1
    ·rcases kop1 (P := P) (e := e) (m := rmK s.m z) (d := s.nx) hc1 with hb | ⟨v', b, hb⟩
     ·rw [hb] at hrun; cases hrun
     ·obtain ⟨_, _, _, _, _, a6, _⟩ := U7 (D := D) hrun
      have hnx := a6 (.inl ⟨v', [], b, hb⟩)
      rw [hb] at q1 q2 q5
      refine ⟨h3, q4, _, noAl, q1.congr (hrdc _ q5), hend _ q2 q5, fun ℓ hℓ => ?_, fun ℓ hℓ => ?_, q5.str⟩
      ·simp only [q1h, KR.ks, List.map_nil, q1q, or_false] at hℓ
       rcases hℓ with h4 | h4
       ·exact .inl (BN h4)
       ·exact .inl (Cq h4)
      ·rcases wS hℓ with h4 | ⟨q, rfl, h4⟩
       ·exact .inl h4
       ·rcases LN h4 with ⟨_, _, _, _, h5, _⟩ | ⟨rfl, _⟩
        ·rcases h5 with h5 | h5 <;> cases h5
        ·exact .inr ⟨s.nx, rfl, .inl ⟨hc1, rfl, hnx⟩⟩
    ·have hc0 : cls P o.op = 0 := by omega
     rcases kop0 (P := P) (e := e) (m := rmK s.m z) (d := s.nx) hc0 with hb | ⟨v', hb⟩
     ·rw [hb] at hrun; cases hrun
     ·rw [hb] at q1 q2 q5
      refine ⟨h3, q4, _, noAl, q1.congr (hrdc _ q5), hend _ q2 q5, fun ℓ hℓ => ?_, fun ℓ hℓ => ?_, q5.str⟩
      ·simp only [q1h, KR.ks, List.map_nil, q1q, or_false] at hℓ
       rcases hℓ with h4 | h4
       ·exact .inl (BN h4)
       ·exact .inl (Cq h4)
      ·rcases wS hℓ with h4 | ⟨q, rfl, h4⟩
       ·exact .inl h4
       ·exact absurd rfl h4
  ·have hc3 : cls P o.op = 3 := by have := Qn (P := P) o.op; omega
   obtain ⟨p, q1, q2, q3, q4, q5⟩ := Mk hrc (s := ⟨rmK s.m z, s.nx, s.dn, s.sc⟩) ho hn hdk hg hz hrun
   have h3 := heok q3 q4
   refine ⟨h3, q4, p, noAl, q1.congr (hrdc p q5), hend p q2 q5, fun ℓ hℓ => ?_, fun ℓ hℓ => ?_, q5.str⟩
   ·rcases q5.rd ℓ hℓ with ⟨t', rfl, h4⟩ | ⟨k', b', hb', rfl⟩
    ·rcases h4 with h4 | h4
     ·exact .inl (BN h4)
     ·exact .inl (Cq h4)
    ·exact .inr ⟨k', b', hb', rfl, by omega, fun h => by omega⟩
   ·rcases q5.wr ℓ hℓ with h4 | ⟨k, rfl, h4⟩
    ·exact .inl h4
    ·exact .inr ⟨k, rfl, .inr ⟨hc3, h4⟩⟩
theorem DV{ops:Array Oper}{i:Nat}(h:i<ops.size):ops[i]?=some (qz ops.toList i):=by
 unfold qz
 rw[q12]
 have:ops.toList[i]?=ops[i]?:=by simp
 rw[this,Array.getElem?_eq_getElem h];rfl
theorem DW {M : List Nat} {u i : Nat} (hne : u ≠ i) : ordB M u i = true ↔ Ord M u i := by
  unfold ordB Ord
  rcases Nat.lt_trichotomy u i with h | h | h
  · have hb : Nat.blt u i = true := by simpa using h
    rw [hb]; simp only [cond_true]
    exact ⟨fun h2 => .inl ⟨h, h2⟩, fun h2 => h2.elim (fun h3 => h3.2) (fun h3 => by omega)⟩
  · exact absurd h hne
  · have hb : Nat.blt u i = false := by
      cases hq : Nat.blt u i with
      | false => rfl
      | true => have : u < i := by simpa using hq
                omega
    rw [hb]; simp only [cond_false]
    exact ⟨fun h2 => .inr ⟨h, h2⟩, fun h2 => h2.elim (fun h3 => by omega) (fun h3 => h3.2)⟩
theorem Rm{M:List Nat}{u i:Nat}(hne:u≠i):ordB M u i=ordB M i u:=by
 have h1:=DW (M:=M) hne
 have h2:=DW (M:=M) (Ne.symm hne)
 have h3:Ord M u i↔Ord M i u:=by unfold Ord;exact⟨fun h=>h.symm,fun h=>h.symm⟩
 cases ha:ordB M u i<;>cases hb:ordB M i u<;>simp_all
theorem F6{all:List Oper}{M:List Nat}(h:E4 P all M=true){u i:Nat}(hu:u<i)(hi:i<all.length)(hno:ordB M u i=false):
  (∀t∈slB all (qz all i),∀t',(qz all u).dst=some t'→t'≠t)∧(∀t∈slB all (qz all u),∀t',(qz all i).dst=some t'→t'≠t)∧(∀t,(qz all u).dst=some t→(qz all i).dst≠some t)∧ ¬(cls P (qz all u).op=3∧cls P (qz all i).op=3):=by
 unfold E4 at h
 rw[q0Q]at h
 have h2:=List.all_eq_true.1 (List.all_eq_true.1 h.2 i (List.mem_range.2 hi)) u (List.mem_range.2 hu)
 unfold UC at h2
 rw[hno]at h2
 simp only[Bool.false_or,q0Q]at h2
 obtain⟨⟨⟨a,b⟩,c⟩,d⟩:=h2
 have hdst: ∀(o:Oper) t t',(!dstB o t)=true→o.dst=some t'→t'≠t:=by
  intro o t t' h1 h2 h3
  subst h3
  unfold dstB at h1
  rw[h2]at h1
  simp at h1
 refine⟨fun t ht t' h3=>hdst _ t t' (List.all_eq_true.1 a t ht) h3,fun t ht t' h3=>hdst _ t t' (List.all_eq_true.1 b t ht) h3,fun t h3 h4=>?_,fun h3=>?_⟩
 ·rw[h3]at c
  exact hdst _ t t c h4 rfl
 ·rw[h3.1,h3.2]at d;cases d
theorem Wx{all:List Oper}{M:List Nat}{u i:Nat}(hi:2≤cls P (qz all i).op)(hu:u<i)(hc:cls P (qz all u).op=1)(hno:ordB M u i=false):u∈unz P all M i:=by
 unfold unz
 have:Nat.ble (cls P (qz all i).op) 1=false:=by
  cases h:Nat.ble (cls P (qz all i).op) 1 with
  |false=>rfl
  |true=>have:=q1D h;omega
 rw[this,cond_false,q1l]
 refine⟨List.mem_range.2 hu,?_⟩
 rw[hc,hno];rfl
theorem Wa (hrc : RcOk D P rc) (hm : P.follows .mixedOrders = true) {E : Env} {ops : Array Oper} {n lo U : Nat} (hn : E.n = n) (hds : ∀ o ∈ ops.toList, vW n o = true) {e e' : q9} {s s' : S} {x : X} (h : runD rc P ops.toList e s = .ok x e' s') (he : EOK D E lo e s) (hU : s'.nx.num ≤ U) :
    x = .nrm ∧ EOK D E lo e' s' ∧ s.nx.num ≤ s'.nx.num ∧ ∀ (id : Nat) a w H β, Rel D E lo U e s a w H β → (Code.region id ops true).wp P (Dl D E lo U .nrm e' s') a w := by
  unfold runD at h
  split at h
  rotate_left
  · cases h
  rename_i hex
  have hd := Classical.choose_spec hex
  generalize Classical.choose hex = pq at h hd
  obtain ⟨e2, s2⟩ := pq
  obtain ⟨es, ss, hd⟩ := hd
  cases h
  simp only at hd
  have hU : s2.nx.num ≤ U := hU
  show X.nrm = .nrm ∧ EOK D E lo e2 s2 ∧ s.nx.num ≤ s2.nx.num ∧ ∀ (id : Nat) a w H β, Rel D E lo U e s a w H β → (Code.region id ops true).wp P (Dl D E lo U .nrm e2 s2) a w
  have hlen : ops.toList.length = ops.size := by simp
  generalize hM : masks 0 ops.toList [] = M at *
  have hst := hd.stat
  have hstep := hd.step
  have hload := hd.load
  rw [hM] at hst hload
  rw [hM, hlen] at hstep
  have h0 := hd.e0
  have h0s := hd.s0
  have hen := hd.en
  have hsn := hd.sn
  rw [hlen] at hen hsn
  have hopm : ∀ i, i < ops.size → vW n (qz ops.toList i) = true := fun i hi => hds _ (q1m (l := ops.toList) (i := i) (by have := DV hi; simpa using this))
  -- the states on the way
  have hE : ∀ i, i ≤ ops.size → EOK D E lo (es i) (ss i) := by
    intro i
    induction i with
    | zero => intro _; rw [h0, h0s]; exact he
    | succ i ih => intro hi; exact (J1 hrc (DV (by omega)) hn (hopm i (by omega)) (ih (by omega)) (hstep i (by omega))).1
  have hnx1 : ∀ i, i < ops.size → (ss i).nx.num ≤ (ss (i + 1)).nx.num := fun i hi => (J1 hrc (DV hi) hn (hopm i hi) (hE i (by omega)) (hstep i hi)).2.1
  have hmono : ∀ i j, i ≤ j → j ≤ ops.size → (ss i).nx.num ≤ (ss j).nx.num := by
    intro i j hij
    induction j with
    | zero => intro _; have : i = 0 := by omega
              subst this; exact q1G _
    | succ j ih =>
      intro hj
      by_cases e : i = j + 1
      · subst e; exact q1G _
      · exact q1H (ih (by omega) (by omega)) (hnx1 j (by omega))
  have hSI : ∀ i, ∃ q : PI × (Nat → XV → Prop), (i < ops.size → SI D P E ops i (qz ops.toList i) (es i) (ss i) (es (i + 1)) (ss (i + 1)) (zOf P ss ops.toList M i) q.1 q.2) ∧ (¬ i < ops.size → q.1 = ⟨[], [], [], [], none⟩) := by
    intro i
    by_cases hi : i < ops.size
    · obtain ⟨_, _, p, al, h⟩ := J1 hrc (DV hi) hn (hopm i hi) (hE i (by omega)) (hstep i hi)
      exact ⟨(p, al), fun _ => h, fun h => absurd hi h⟩
    · exact ⟨(⟨[], [], [], [], none⟩, noAl), fun h => absurd h hi, fun _ => rfl⟩
  let pl : Nat → PI := fun i => (Classical.choose (hSI i)).1
  let al : Nat → Nat → XV → Prop := fun i => (Classical.choose (hSI i)).2
  have hS : ∀ i, i < ops.size → SI D P E ops i (qz ops.toList i) (es i) (ss i) (es (i + 1)) (ss (i + 1)) (zOf P ss ops.toList M i) (pl i) (al i) := fun i hi => (Classical.choose_spec (hSI i)).1 hi
  have hS0 : ∀ i, ¬ i < ops.size → pl i = ⟨[], [], [], [], none⟩ := fun i hi => (Classical.choose_spec (hSI i)).2 hi
  have hev : ∀ i, i ≤ ops.size → ev pl (List.range i) (qm D e s.m) = qm D (es i) (ss i).m := by
    intro i
    induction i with
    | zero => intro _; rw [h0, h0s]; rfl
    | succ i ih =>
      intro hi
      rw [NC, ih (by omega)]
      exact (hS i (by omega)).upd
  -- two operations and one block
  have hsee : ∀ i k b, mget (rmK (ss i).m (zOf P ss ops.toList M i)) k = some b → mget (ss i).m k = some b ∧ k ∉ zOf P ss ops.toList M i := by
    intro i k b hb
    rw [wk] at hb
    split at hb
    · cases hb
    · rename_i hk; exact ⟨hb, hk⟩
  have hlt : ∀ i k b, i ≤ ops.size → mget (ss i).m k = some b → k.num < (ss i).nx.num := fun i k b hi hb => (hE i hi).sok.lt k (by rw [hb]; simp)
  have hz : ∀ u i, 2 ≤ cls P (qz ops.toList i).op → u < i → i < ops.size → cls P (qz ops.toList u).op = 1 → ordB M u i = false → (ss u).nx ∈ zOf P ss ops.toList M i := fun u i h0 h1 h2 h3 h4 => List.mem_map.2 ⟨u, Wx h0 h1 h3 h4, rfl⟩
  have hWrOrd : Fb ops.size pl M := by
    intro i j hij hj ℓ hi1 hj1
    cases hno : ordB M i j with
    | true =>
      have := (DW (by omega)).1 hno
      rcases this with h | h
      · exact h.2
      · omega
    | false =>
      exfalso
      obtain ⟨_, _, p3, p4⟩ := F6 hst hij (by omega) hno
      rcases (hS i (by omega)).wr ℓ hi1 with ⟨t, h1, rfl⟩ | ⟨k, rfl, h1⟩
      · rcases (hS j hj).wr _ hj1 with ⟨t', h2, h3⟩ | ⟨k', h3, _⟩
        · have : t' = t := Nat.eq_of_mul_eq_mul_left (by decide : 0 < 2) h3.symm
          subst this
          exact p3 t' h1 h2
        · omega
      · rcases (hS j hj).wr _ hj1 with ⟨t', _, h3⟩ | ⟨k', h3, h2⟩
        · omega
        · have e1 : k' = k := Key.num_inj (by omega)
          subst e1
          have hm1 := hmono (i + 1) j (by omega) (by omega)
          rcases h1 with ⟨c1, rfl, hnx⟩ | ⟨c1, h1⟩
          · rcases h2 with ⟨c2, h2, _⟩ | ⟨c2, h2⟩
            · rw [h2] at hnx; rw [hnx] at hm1; omega
            · rcases h2 with h2 | ⟨h2, _⟩
              · cases hb : mget (rmK (ss j).m (zOf P ss ops.toList M j)) (ss i).nx with
                | none => exact h2 hb
                | some b => exact (hsee j _ b hb).2 (hz i j (by omega) hij hj c1 hno)
              · rw [hnx] at hm1; omega
          · rcases h2 with ⟨c2, rfl, _⟩ | ⟨c2, h2⟩
            · rcases h1 with h1 | ⟨_, h1⟩
              · cases hb : mget (rmK (ss i).m (zOf P ss ops.toList M i)) (ss j).nx with
                | none => exact h1 hb
                | some b =>
                  have := hlt i _ b (by omega) (hsee i _ b hb).1
                  have := hmono i j (by omega) (by omega)
                  omega
              · omega
            · exact p4 ⟨c1, c2⟩
  have hRd : RdOk ops.size pl al M (qm D e s.m) := by
    intro i hi ℓ hℓ u hu hui hw hord
    have hno : ordB M u i = false := by
      cases hq : ordB M u i with
      | false => rfl
      | true => exact absurd ((DW hui).1 hq) hord
    rw [hev u (by omega), hev (u + 1) (by omega), hev i (by omega)]
    have hpair : (∀ t ∈ slB ops.toList (qz ops.toList i), ∀ t', (qz ops.toList u).dst = some t' → t' ≠ t) ∧ ¬ (cls P (qz ops.toList u).op = 3 ∧ cls P (qz ops.toList i).op = 3) := by
      rcases Nat.lt_trichotomy u i with h | h | h
      · obtain ⟨p1, _, _, p4⟩ := F6 hst h (by omega) hno
        exact ⟨p1, p4⟩
      · exact absurd h hui
      · obtain ⟨_, p2, _, p4⟩ := F6 hst h (by omega) (by rw [Rm (by omega)]; exact hno)
        exact ⟨p2, fun h => p4 ⟨h.2, h.1⟩⟩
    rcases (hS i hi).rd ℓ hℓ with ⟨t, rfl, ht⟩ | ⟨k, b, hb, rfl, hc, hal⟩
    · rcases (hS u hu).wr _ hw with ⟨t', h2, h3⟩ | ⟨k', h3, _⟩
      · exact absurd (Nat.eq_of_mul_eq_mul_left (by decide : 0 < 2) h3.symm : t' = t) (hpair.1 t ht t' h2)
      · omega
    · obtain ⟨hb1, hb2⟩ := hsee i k b hb
      have hkl := hlt i k b (by omega) hb1
      rcases (hS u hu).wr _ hw with ⟨t', _, h3⟩ | ⟨k', h3, h2⟩
      · omega
      · have e1 : k' = k := Key.num_inj (by omega)
        subst e1
        rcases h2 with ⟨c2, rfl, _⟩ | ⟨c2, h2⟩
        · exfalso
          rcases Nat.lt_trichotomy u i with h | h | h
          · exact hb2 (hz u i hc h hi c2 hno)
          · exact hui h
          · have := hmono i u (by omega) (by omega); omega
        · have hci : cls P (qz ops.toList i).op = 2 := by
            have := Qn (P := P) (qz ops.toList i).op
            have : cls P (qz ops.toList i).op ≠ 3 := fun h => hpair.2 ⟨c2, h⟩
            omega
          obtain ⟨hg, t, x', hop, hpk, hall⟩ := hal hci
          have hmem : (i, u) ∈ ldP P ops.toList M := by
            unfold ldP
            refine List.mem_flatMap.2 ⟨i, List.mem_range.2 (by omega), ?_⟩
            rw [hci]
            show (i, u) ∈ List.map _ _
            refine List.mem_map.2 ⟨u, q1l.2 ⟨List.mem_range.2 (by omega), ?_⟩, rfl⟩
            rw [c2, hno]; rfl
          obtain ⟨w, hwn, w1, w2, w3⟩ := hload i u hmem t x' hop hg
          have fin : ∀ q, q ≤ ops.size → (j4 P (ss q).m t (qa (es i) x')).res = w → Same (al i) (2 * k'.num + 1) (qm D (es q) (ss q).m (2 * k'.num + 1)) (qm D (es i) (ss i).m (2 * k'.num + 1)) := by
            intro q hq hl
            obtain ⟨k3, b3, g1, g2, g3⟩ := CB (P := P) (m := (ss q).m) (t := t) (p := qa (es i) x') (by rw [hl]; exact hwn)
            rw [hpk] at g1; cases g1
            exact .inr ⟨_, hall (ss q).m b3 w (hE q hq).sok.ok w1 hwn hl g2, jH g2⟩
          exact ⟨fin u (by omega) w2, fin (u + 1) (by omega) w3⟩
  have hokM : okM ops.toList M = true := by
    unfold E4 at hst
    rw [q0Q] at hst; exact hst.1
  have hend := hE ops.size (q1G _)
  rw [hen, hsn] at hend
  have hle := hmono 0 ops.size (by omega) (q1G _)
  rw [h0s, hsn] at hle
  refine ⟨rfl, hend, hle, fun id a w H β hr => ?_⟩
  have hmin : ∀ i, i < ops.size → min i ops.size = i := fun i hi => by omega
  refine Tp (al := al) (lo := fun i => (ss (min i ops.size)).nx.num) (hi := fun i => (ss (min (i + 1) ops.size)).nx.num) hm hokM hWrOrd hRd (Mw e s.m) ?_ ?_ ?_ ?_ hr.rep ?_ ?_
  · intro j ℓ x hx
    by_cases hj : j < ops.size
    · exact (hS j hj).str ℓ x hx
    · rw [hS0 j hj] at hx; cases hx
  · intro i j hij hj
    show (ss (min (i + 1) ops.size)).nx.num ≤ (ss (min j ops.size)).nx.num
    exact hmono _ _ (by omega) (by omega)
  · intro i
    show (ss (min i ops.size)).nx.num ≤ (ss (min (i + 1) ops.size)).nx.num
    exact hmono _ _ (by omega) (by omega)
  · intro i hi
    show GoodK P E ops i (pl i) (al i) (ss (min i ops.size)).nx.num (ss (min (i + 1) ops.size)).nx.num _
    rw [hmin i hi, show min (i + 1) ops.size = i + 1 by omega, hev i (by omega)]
    exact (hS i hi).good
  · intro i hi k h1 h2
    have h1 : (ss (min i ops.size)).nx.num ≤ k := h1
    have h2 : k < (ss (min (i + 1) ops.size)).nx.num := h2
    have q1 := hmono 0 (min i ops.size) (by omega) (by omega)
    have q2 := hmono (min (i + 1) ops.size) ops.size (by omega) (q1G _)
    rw [h0s] at q1
    rw [hsn] at q2
    exact hr.dom k (by omega) (by omega)
  · intro a' w' H' β' hrep hβ
    rw [hev ops.size (q1G _), hen, hsn] at hrep
    have hout : ∀ k, k < s.nx.num ∨ s2.nx.num ≤ k → β' k = β k := fun k hk => hβ k fun i hi => by
      show k < (ss (min i ops.size)).nx.num ∨ (ss (min (i + 1) ops.size)).nx.num ≤ k
      have q1 := hmono 0 (min i ops.size) (by omega) (by omega)
      have q2 := hmono (min (i + 1) ops.size) ops.size (by omega) (q1G _)
      rw [h0s] at q1
      rw [hsn] at q2
      rcases hk with hk | hk
      · exact .inl (by omega)
      · exact .inr (by omega)
    refine ⟨rfl, H', β', hrep, fun k h1 h2 => ?_, fun k hk => ?_⟩
    · rw [hout k (.inr h1)]; exact hr.dom k (by omega) h2
    · have : k < s.nx.num ∨ s2.nx.num ≤ k := by
        rcases hk with hk | hk
        · exact .inl (q1J hk he.le)
        · exact .inr hk
      rw [hout k this]
      refine hr.bet k ?_
      rcases hk with hk | hk
      · exact .inl hk
      · exact .inr (by omega)
end
end
noncomputable section
section
variable {D:List Int} {P:Program} {rc:FuncId→List V→S→RO}
theorem Mv{r:R}{k:q9→S→R}{x:X}{e':q9}{s':S}(h:KE r k= .ok x e' s'):(∃e1 s1,r= .ok .nrm e1 s1∧k e1 s1= .ok x e' s')∨(r= .ok x e' s'∧x≠ .nrm):=by
 cases r with
 |no t=>cases h
 |need n=>cases h
 |ok y e1 s1=>
  cases y with
  |nrm=>exact .inl ⟨e1,s1,rfl,h⟩
  |ext i=>cases h;exact .inr ⟨rfl,by simp⟩
  |ret=>cases h;exact .inr ⟨rfl,by simp⟩
theorem TG{r:R}{k:q9→S→R}{x:X}{e':q9}{s':S}(h:KA k r= .ok x e' s'):(∃e1 s1,r= .ok .nrm e1 s1∧k e1 s1= .ok x e' s')∨(r= .ok x e' s'∧x≠ .nrm):=Mv h
theorem Qk{id:Nat}{r:R}{x:X}{e':q9}{s':S}(h:H9 id r= .ok x e' s'):(r= .ok (.ext id) e' s'∧x= .nrm)∨(r= .ok x e' s'∧x≠ .ext id):=by
 cases r with
 |no t=>cases h
 |need n=>cases h
 |ok y e1 s1=>
  cases y with
  |nrm=>cases h;exact .inr ⟨rfl,by simp⟩
  |ret=>cases h;exact .inr ⟨rfl,by simp⟩
  |ext i=>
   have h': @Bool.rec (fun _=>R) (.ok (.ext i) e1 s1) (.ok .nrm e1 s1) (Nat.beq i id)= .ok x e' s':=h
   cases hb:Nat.beq i id with
   |true=>rw[hb]at h';cases h';rw[q1B hb];exact .inl ⟨rfl,rfl⟩
   |false=>rw[hb]at h';cases h';refine .inr ⟨rfl,fun e=>?_⟩;cases e;simp at hb
def ZE(D:List Int)(P:Program)(rc:FuncId→List V→S→RO)(c:Code):Prop:=
 ∀(E:Env)(n lo U:Nat)(e:q9)(s:S)(x:X)(e':q9)(s':S),E.n=n→jz n c=true→den rc P c e s= .ok x e' s'→EOK D E lo e s→s'.nx.num≤U→
  EOK D E lo e' s'∧s.nx.num≤s'.nx.num∧ ∀a w H β,Rel D E lo U e s a w H β→c.wp P (Dl D E lo U x e' s') a w
theorem Jp{next:Act→World→Prop}{Q:Exit→Act→World→Prop}{x:X}{a:Act}{w:World}(hx:x≠ .nrm)(h:Q (Hi x) a w):Exit.then next Q (Hi x) a w:=by
 cases x with
 |nrm=>exact absurd rfl hx
 |ext i=>exact h
 |ret=>exact h
theorem ze(hrc:RcOk D P rc)(hm:P.follows .mixedOrders=true): ∀c:Code,ZE D P rc c
 | .skip=>fun E n lo U e s x e' s' hn hk h he hU=>by
  cases h;exact⟨he,q1G _,fun a w H β hr=>wp_skip ⟨rfl,H,β,hr⟩⟩
 | .region id ops false=>fun E n lo U e s x e' s' hn hk h he hU=>by
  have h':wD rc P ops.toList ops.toList e s= .ok x e' s':=h
  obtain⟨rfl,h2,h3,h4⟩:=JU (U:=U) hrc hn (List.all_eq_true.1 hk) ops.toList 0 e s x e' s' rfl h' he hU
  refine⟨h2,h3,fun a w H β hr=>wp_region ?_⟩
  rw[List.range_eq_range']
  exact h4 a w H β hr
 | .region id ops true=>fun E n lo U e s x e' s' hn hk h he hU=>by
  have h':runD rc P ops.toList e s= .ok x e' s':=h
  obtain⟨rfl,h2,h3,h4⟩:=Wa (U:=U) hrc hm hn (List.all_eq_true.1 hk) h' he hU
  exact⟨h2,h3,fun a w H β hr=>h4 id a w H β hr⟩
 | .seq c d=>fun E n lo U e s x e' s' hn hk h he hU=>by
  have h':KE (den rc P c e s) (den rc P d)= .ok x e' s':=h
  simp only[jz,q0Q]at hk
  rcases Mv h' with⟨e1,s1,h1,h2⟩|⟨h1,hx⟩
  ·--the second part has to be known first,for the bound
   have hmono:s1.nx.num≤s'.nx.num:=by
    have hE1:=(ze hrc hm c E n lo s1.nx.num e s .nrm e1 s1 hn hk.1 h1 he (q1G _)).1
    exact(ze hrc hm d E n lo U e1 s1 x e' s' hn hk.2 h2 hE1 hU).2.1
   obtain⟨a1,a2,a3⟩:=ze hrc hm c E n lo U e s .nrm e1 s1 hn hk.1 h1 he (q1H hmono hU)
   obtain⟨b1,b2,b3⟩:=ze hrc hm d E n lo U e1 s1 x e' s' hn hk.2 h2 a1 hU
   refine⟨b1,q1H a2 b2,fun a w H β hr=>wp_seq (wp_mono (a3 a w H β hr) ?_)⟩
   rintro ex a w ⟨rfl,H',β',hr'⟩
   exact b3 a w H' β' hr'
  ·obtain⟨a1,a2,a3⟩:=ze hrc hm c E n lo U e s x e' s' hn hk.1 h1 he hU
   refine⟨a1,a2,fun a w H β hr=>wp_seq (wp_mono (a3 a w H β hr) ?_)⟩
   rintro ex a w ⟨rfl,H',β',hr'⟩
   exact Jp hx ⟨rfl,H',β',hr'⟩
 | .cond c y z=>fun E n lo U e s x e' s' hn hk h he hU=>by
  have h':Kj (qa e c) (den rc P y) (den rc P z) e s= .ok x e' s':=h
  simp only[jz,q0Q]at hk
  unfold Kj at h'
  split at h'
  ·rename_i t hc
   have hev: ∀a w H β,Rel D E lo U e s a w H β→a.eval c= .bool t:=fun a w H β hr=>by
    have hs:=Fj hr.rep (x:=c) (by rw[hc];simp) (fun t _=>rfl)
    rw[hc]at hs
    exact hs.1
   cases t with
   |true=>
    obtain⟨a1,a2,a3⟩:=ze hrc hm y E n lo U e s x e' s' hn hk.1 h' he hU
    exact⟨a1,a2,fun a w H β hr=>wp_cond_true (hev a w H β hr) (a3 a w H β hr)⟩
   |false=>
    obtain⟨a1,a2,a3⟩:=ze hrc hm z E n lo U e s x e' s' hn hk.2 h' he hU
    exact⟨a1,a2,fun a w H β hr=>wp_cond_false (hev a w H β hr) (a3 a w H β hr)⟩
  ·cases h'
 | .block id c=>fun E n lo U e s x e' s' hn hk h he hU=>by
  have h':H9 id (den rc P c e s)= .ok x e' s':=h
  have hk':jz n c=true:=hk
  rcases Qk h' with⟨h1,rfl⟩|⟨h1,hx⟩
  ·obtain⟨a1,a2,a3⟩:=ze hrc hm c E n lo U e s _ e' s' hn hk' h1 he hU
   refine⟨a1,a2,fun a w H β hr=>wp_block (wp_mono (a3 a w H β hr) ?_)⟩
   rintro ex a w ⟨rfl,H',β',hr'⟩
   simp only[Hi,Exit.inBlock,if_true]
   exact⟨rfl,H',β',hr'⟩
  ·obtain⟨a1,a2,a3⟩:=ze hrc hm c E n lo U e s _ e' s' hn hk' h1 he hU
   refine⟨a1,a2,fun a w H β hr=>wp_block (wp_mono (a3 a w H β hr) ?_)⟩
   rintro ex a w ⟨rfl,H',β',hr'⟩
   cases x with
   |nrm=>exact⟨rfl,H',β',hr'⟩
   |ret=>exact⟨rfl,H',β',hr'⟩
   |ext i=>
    have:i≠id:=fun e=>hx (by rw[e])
    simp only[Hi,Exit.inBlock,if_neg this]
    exact⟨rfl,H',β',hr'⟩
 | .loop c=>fun E n lo U e s x e' s' hn hk h he hU=>by
  have h':DN (den rc P c) 1000000 e s= .ok x e' s':=h
  have hk':jz n c=true:=hk
  have key: ∀N e s,DN (den rc P c) N e s= .ok x e' s'→EOK D E lo e s→EOK D E lo e' s'∧s.nx.num≤s'.nx.num∧ ∀a w H β,Rel D E lo U e s a w H β→Code.rounds P c (Dl D E lo U x e' s') N a w:=by
   intro N
   induction N with
   |zero=>intro e s h;cases h
   |succ N ih=>
    intro e s h he
    have h2:KA (DN (den rc P c) N) (den rc P c e s)= .ok x e' s':=h
    rcases TG h2 with⟨e1,s1,h3,h4⟩|⟨h3,hx⟩
    ·have hE1:=(ze hrc hm c E n lo s1.nx.num e s .nrm e1 s1 hn hk' h3 he (q1G _)).1
     obtain⟨b1,b2,b3⟩:=ih e1 s1 h4 hE1
     obtain⟨a1,a2,a3⟩:=ze hrc hm c E n lo U e s .nrm e1 s1 hn hk' h3 he (q1H b2 hU)
     refine⟨b1,q1H a2 b2,fun a w H β hr=>?_⟩
     rw[rounds_succ]
     refine wp_mono (a3 a w H β hr) ?_
     rintro ex a w ⟨rfl,H',β',hr'⟩
     exact b3 a w H' β' hr'
    ·obtain⟨a1,a2,a3⟩:=ze hrc hm c E n lo U e s x e' s' hn hk' h3 he hU
     refine⟨a1,a2,fun a w H β hr=>?_⟩
     rw[rounds_succ]
     refine wp_mono (a3 a w H β hr) ?_
     rintro ex a w ⟨rfl,H',β',hr'⟩
     exact Jp hx ⟨rfl,H',β',hr'⟩
  obtain⟨a1,a2,a3⟩:=key 1000000 e s h' he
  exact⟨a1,a2,fun a w H β hr=>wp_loop_rounds 1000000 (a3 a w H β hr)⟩
 | .exit id=>fun E n lo U e s x e' s' hn hk h he hU=>by
  cases h;exact⟨he,q1G _,fun a w H β hr=>wp_exit ⟨rfl,H,β,hr⟩⟩
 | .label l=>fun E n lo U e s x e' s' hn hk h he hU=>by
  cases h;exact⟨he,q1G _,fun a w H β hr=>wp_label ⟨rfl,H,β,hr⟩⟩
 | .ret=>fun E n lo U e s x e' s' hn hk h he hU=>by
  cases h;exact⟨he,q1G _,fun a w H β hr=>wp_ret ⟨rfl,H,β,hr⟩⟩
 | .rangeFunc .. =>fun E n lo U e s x e' s' hn hk h he hU=>by cases h
 | .goto _=>fun E n lo U e s x e' s' hn hk h he hU=>by cases h
 | .scope _=>fun E n lo U e s x e' s' hn hk h he hU=>by cases h
 | .refuse _=>fun E n lo U e s x e' s' hn hk h he hU=>by cases h
end
end
noncomputable section
section
variable {D:List Int} {P:Program}
theorem E3 (l : List V) (t : Nat) : slot (j9 l) t = if t < 16 then nthV l t else .und := by
  unfold slot
  rcases q1K t 256 with h | h
  · have hb : Nat.blt t 256 = true := by simpa using h
    rw [hb]
    show Kz (D16.of (t / 16)) (D16.of (t % 16)) (j9 l) = _
    have h1 : (D16.of (t / 16)).n = t / 16 := D16.n_of (by omega)
    have h2 : (D16.of (t % 16)).n = t % 16 := D16.n_of (by omega)
    by_cases ht : t < 16
    · rw [if_pos ht]
      have e1 : D16.of (t / 16) = .d0 := D16.n_inj (by rw [h1, Nat.div_eq_of_lt ht]; rfl)
      rw [e1]
      rw [q1M ht] at h2 ⊢
      generalize D16.of t = d at h2
      subst h2
      cases d <;> rfl
    · rw [if_neg ht]
      generalize D16.of (t % 16) = d'
      generalize D16.of (t / 16) = d at h1
      have : d ≠ .d0 := fun e => by subst e; have h1 : 0 = t / 16 := h1; omega
      cases d <;> first | exact absurd rfl this | exact N16.get_all _ d'
  · have hb : Nat.blt t 256 = false := by
      cases hq : Nat.blt t 256 with
      | false => rfl
      | true => have : t < 256 := by simpa using hq
                omega
    rw [hb, if_neg (by omega)]
theorem EI{t:TypeId}{k:Key}{b:KB}{v:V}{o off:Nat}{cl:List Atom}(hbl:b.blk D= .rigid cl∨ ∃es,b.blk D= .grow es cl)(hv:v.okC)
  (hcl: ∀s,o+s≤(v.cells D).length→(cl.drop off).take s=((v.cells D).drop o).take s∧off+s≤cl.length){r:KR}(h:ldV P t v o [(k,b)]=r)(hr:r≠ .bad):
  r.res.okC∧ ∀(β:Bm)(w:World)(H:Heap)(p c:Nat),(b.blk D).rep β w H k.num→β k.num=some (p,c)→ ∃u,(loadVar t ⟨p,off,none⟩).run P w= .ok u w∧(r.res.cmp D).sat β H u:=by
 obtain⟨g,s,l,z,hs,e,ho,h1,h2,h3,h4⟩:=LK (D:=D) h hr hv
 subst e
 obtain⟨c1,c2⟩:=hcl s h2
 rw[h1]at c1
 refine⟨ho,fun β w H p c hb hβ=>?_⟩
 have hld: ∃ks Lw,AR P (fun _=>some (b.blk D)) t (.c (.one (.loc k.num off)))=some (.c (z.cmp D),ks,Lw):=by
  have hle:Nat.ble (off+s) cl.length=true:=by simpa using c2
  rcases hbl with e1|⟨es,e1⟩
  ·unfold AR
   rw[e1]
   cases g with
   |true=>simp only[hs,hle];rw[h3 rfl,←c1];exact⟨_,_,rfl⟩
   |false=>
    obtain⟨k1,k2,k3⟩:=h4 rfl
    rw[k2]at c1
    have c3:=wB c1 k3
    simp only[hs,c3];rw[k1];exact⟨_,_,rfl⟩
  ·unfold AR
   rw[e1]
   cases g with
   |true=>simp only[hs,hle];rw[h3 rfl,←c1];exact⟨_,_,rfl⟩
   |false=>
    obtain⟨k1,k2,k3⟩:=h4 rfl
    rw[k2]at c1
    have c3:=wB c1 k3
    simp only[hs,c3];rw[k1];exact⟨_,_,rfl⟩
 obtain⟨ks,Lw,hld⟩:=hld
 exact GX hld (fun b' hb'=>by cases hb';exact hb) hβ
theorem JB{m:qM}{t:TypeId}{x:V}{r:KR}(h:j4 P m t x=r)(hr:r≠ .bad)(hm: ∀k b,mget m k=some b→b.ok):
  r.res.okC∧ ∃k off,qe D x= .c (.one (.loc k off))∧ ∀(β:Bm)(w:World)(H:Heap),(∀q b,mget m q=some b→(b.blk D).rep β w H q.num)→ ∀p c,β k=some (p,c)→ ∃u,(loadVar t ⟨p,off,none⟩).run P w= .ok u w∧(r.res.cmp D).sat β H u:=by
 unfold j4 at h
 split at h
 ·rename_i k o
  split at h
  ·rename_i v hb
   obtain⟨a1,a2⟩:=EI (D:=D) (cl:=v.cells D) (off:=o) (.inl rfl) (hm _ _ hb) (fun s hs=>⟨rfl,hs⟩) h hr
   exact⟨a1,k.num,o,rfl,fun β w H hM p c hβ=>a2 β w H p c (hM _ _ hb) hβ⟩
  ·exact absurd h.symm hr
 ·rename_i k i o w
  split at h
  ·rename_i es n q hb
   cases hc:Nat.beq w es&&Nat.blt i n with
   |false=>rw[hc]at h;exact absurd h.symm hr
   |true=>
    rw[hc]at h
    rw[q0Q]at hc
    have e1:=q1B hc.1
    subst e1
    have hi:i<n:=by simpa using hc.2
    have hok:=hm _ _ hb
    have hel:=hok.2 _ (q1m (jM .und q hi))
    obtain⟨a1,a2⟩:=EI (D:=D) (cl:=flat D (Sq.toL .und q 0 n)) (off:=i*w+o) (.inl rfl) hel.1 (fun s hs=>Ar hok.2 (jM .und q hi) (by rw[V.okC_size hel.1,hel.2]at hs;exact hs)) h hr
    exact⟨a1,k.num,i*w+o,rfl,fun β w' H hM p c hβ=>a2 β w' H p c (hM _ _ hb) hβ⟩
  ·rename_i es n q hb
   cases hc:Nat.beq w es&&Nat.blt i n with
   |false=>rw[hc]at h;exact absurd h.symm hr
   |true=>
    rw[hc]at h
    rw[q0Q]at hc
    have e1:=q1B hc.1
    subst e1
    have hi:i<n:=by simpa using hc.2
    have hok:=hm _ _ hb
    have hel:=hok.2 _ (q1m (jM .und q hi))
    obtain⟨a1,a2⟩:=EI (D:=D) (b:= .gro w n q) (cl:=flat D (Sq.toL .und q 0 n)) (off:=i*w+o) ((Fo w _).imp id fun h=>⟨w,h⟩) hel.1 (fun s hs=>Ar hok.2 (jM .und q hi) (by rw[V.okC_size hel.1,hel.2]at hs;exact hs)) h hr
    exact⟨a1,k.num,i*w+o,rfl,fun β w' H hM p c hβ=>a2 β w' H p c (hM _ _ hb) hβ⟩
  ·exact absurd h.symm hr
 ·exact absurd h.symm hr
def AZ(m:qM):List Nat:=ids.filter fun n=>(mblk m n).isSome
theorem zw{m:qM}{n:Nat}:n∈AZ m↔ ∃k b,Key.num k=n∧mget m k=some b:=by
 unfold AZ
 rw[q1l]
 constructor
 ·rintro⟨_,h⟩
  obtain⟨b,hb⟩:=Option.isSome_iff_exists.1 h
  obtain⟨k,h1,h2⟩:=vE hb
  exact⟨k,b,h1,h2⟩
 ·rintro⟨k,b,rfl,hb⟩
  exact⟨k.num_ids,by rw[v7,hb];rfl⟩
theorem I3{E:Env}{e:q9}{s:S}{a:Act}{w:World}{H:Heap}{β:Bm}(hr:RepF E (qm D e s.m) a w H β)(hm: ∀k b,mget s.m k=some b→b.ok)(he: ∀t,(slot e t).ok){r:ResultVar}(h:isC (v4 P e s.m r)=true):
  (v4 P e s.m r).okC∧ ∃v,(rv a r).run P w= .ok v w∧((v4 P e s.m r).cmp D).sat β H v:=by
 cases r with
 |tmp t=>
  have hc:(slot e t).okC:=Aa h (he t)
  obtain⟨u,hu,hs⟩:=hr.slot t (.c ((slot e t).cmp D)) (by rw[qA,V.okC_av hc];rfl)
  exact⟨hc,u,by simp[rv,Array.getD_eq_getD_getElem?,hu],hs⟩
 |cell x t=>
  have hne:j4 P s.m t (slot e x)≠ .bad:=fun e1=>by
   have h2:isC (j4 P s.m t (slot e x)).res=true:=h
   rw[e1]at h2;cases h2
  obtain⟨a1,k,off,a2,a3⟩:=JB (D:=D) rfl hne hm
  refine⟨a1,?_⟩
  have hav:(slot e x).av D=some (qe D (slot e x)):=by
   rcases V.av_or (D:=D) (slot e x)with e1|⟨l,e1⟩|e1
   ·rw[e1]at hne;exact absurd rfl hne
   ·rw[e1];rfl
   ·rw[qe,e1];rfl
  obtain⟨u,hu,hs⟩:=hr.slot x _ (by rw[qA,hav];rfl)
  rw[a2]at hs
  obtain⟨b,c,hβ,rfl⟩:=hs
  obtain⟨v,hv,hsv⟩:=a3 β w H (fun q b hb=>hr.blk q.num _ (jH hb)) b c hβ
  exact⟨v,by simp[rv,Array.getD_eq_getD_getElem?,hu,asAddr,hv],hsv⟩
theorem I2{E:Env}{e:q9}{s:S}{a:Act}{w:World}{H:Heap}{β:Bm}(hr:RepF E (qm D e s.m) a w H β)(hm: ∀k b,mget s.m k=some b→b.ok)(he: ∀t,(slot e t).ok): ∀{l:List ResultVar},(l.map (v4 P e s.m)).all isC=true→
  ∃vs,(l.mapM (rv a)).run P w= .ok vs w∧CmpSats β H ((l.map (v4 P e s.m)).map (V.cmp D)) vs
 |[],_=>⟨[],by simp,trivial⟩
 |r::l,h=>by
  simp only[q1g,List.all_cons,q0Q]at h
  obtain⟨_,v,hv,hs⟩:=I3 hr hm he h.1
  obtain⟨vs,hvs,hss⟩:=I2 hr hm he h.2
  refine⟨v::vs,?_,hs,hss⟩
  rw[List.mapM_cons]
  simp only[q2a,hv,q29,hvs,q2b]
theorem Ou{s s':S}{l:List V}{v:V}(h:retA s l= .ok v s'):l.all isC=true∧s'=s∧((∃x,l=[x]∧v=x)∨(l.length≠1∧v= .tu l)):=by
 unfold retA at h
 cases hc:l.all isC with
 |false=>rw[hc]at h;cases h
 |true=>
  rw[hc]at h
  have h:retL s l= .ok v s':=h
  unfold retL at h
  split at h
  ·cases h;exact⟨rfl,rfl,.inl ⟨_,rfl,rfl⟩⟩
  ·rename_i hl
   cases h
   refine⟨rfl,rfl,.inr ⟨fun e=>?_,rfl⟩⟩
   obtain⟨x,hx⟩:=List.length_eq_one_iff.1 e
   exact hl x hx
theorem W3{E:Env}{e:q9}{s s':S}{a:Act}{w:World}{H:Heap}{β:Bm}(hr:RepF E (qm D e s.m) a w H β)(hm: ∀k b,mget s.m k=some b→b.ok)(he: ∀t,(slot e t).ok){fn:Func}{v:V}
  (h:retA s (fn.results.toList.map (v4 P e s.m))= .ok v s'): ∃u,(results fn a.tmps).run P w= .ok u w∧(qe D v).sat β H u:=by
 obtain⟨h1,_,h3⟩:=Ou h
 obtain⟨vs,hvs,hsat⟩:=I2 (P:=P) hr hm he h1
 have hrun:(results fn a.tmps).run P w= .ok (if h:vs.toArray.size=1 then vs.toArray[0]else .tuple vs.toArray) w:=by
  show(do let vs←fn.results.mapM (rv a);pure (if h:vs.size=1 then vs[0]else Value.tuple vs):Sem Value).run P w=_
  rw[Array.mapM_eq_mapM_toList]
  simp only[q2a,Sem.run_map,hvs,q29,q2b]
 rw[hrun]
 refine⟨_,rfl,?_⟩
 have hlen: ∀{l:List Cmp}{vs:List Value},CmpSats β H l vs→l.length=vs.length:=by
  intro l
  induction l with
  |nil=>intro vs h;cases vs with|nil=>rfl|cons _ _=>exact h.elim
  |cons x l ih=>intro vs h;cases vs with|nil=>exact h.elim|cons y vs=>simp[ih h.2]
 have hl:=hlen hsat
 rcases h3 with⟨x,e1,rfl⟩|⟨e1,rfl⟩
 ·rw[e1]at hsat h1 hl
  have hxo:v.okC:=by
   have:isC v=true:=by simpa using h1
   have hmem:v∈fn.results.toList.map (v4 P e s.m):=by rw[e1];simp
   obtain⟨r,_,rfl⟩:=List.mem_map.1 hmem
   exact(I3 hr hm he this).1
  simp only[q1g,List.map_nil,q1b,q1e]at hl
  match vs,hl,hsat with
  |[u],_,hsat=>
   rw[zq hxo]
   exact hsat.1
 ·simp only[q1d]at hl e1
  rw[dif_neg (by simp;omega)]
  exact⟨_,rfl,hsat⟩
end
end
end Go.Proofs.YtjemkhmahjnfaaaGreat.Sx.Kx
