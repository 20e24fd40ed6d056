/-
Own laws, part 6. No condition.
-/
import Derived.Test.YtamiaelfnfnegaaGreatDoorM5
import Derived.StringKeys
import Derived.Maps.Keyed
import Derived.Laws.BytesArg
namespace Go.Proofs.YtamiaelfnfnegaaGreatDoor.Sx.Kx
open Go
set_option linter.unusedVariables false
set_option linter.unusedSimpArgs false
noncomputable section
structure ME where
 g:Bool
 es:Nat
 lo:Nat
 n:Nat
 c:Nat
 l:List V
 r:List V
 v:V
 w:List V
 o:Bool
inductive Pt where
 |add|sub|mul|max|min|cmp|same|mid|over|neg|abs|sign|int|quo|frac|make|bits|valid|idq|next|light (b:Bool)|roll|trim|small|times|sml|tru|memo (L:List (List V×V))|memoS (L:List (List ME))|vscl|vsm|lift4|memoD (L:List DE)|dot|memoH (n:Nat) (L:List (List DE))
def mkQ(s:Bool)(n d:Nat):V:=
 @Bool.rec (λ_=>V) ((λg=> @Bool.rec (λ_=>V) (.qq s (Nat.div n g) (Nat.div d g)) (.qq s n d) (Nat.beq g 1)) (Nat.gcd n d)) (.qq false 0 1) (Nat.beq n 0)
def addS(s:Bool)(a:Nat)(t:Bool)(b d:Nat):V:=
 @Bool.rec (λ_=>V) (@Bool.rec (λ_=>V) (mkQ t (Nat.sub b a) d) (mkQ s (Nat.sub a b) d) (Nat.ble b a)) (mkQ s (Nat.add a b) d) (s==t)
def qadd(s:Bool)(a c:Nat)(t:Bool)(b d:Nat):V:=addS s (Nat.mul a d) t (Nat.mul b c) (Nat.mul c d)
def qmul(s:Bool)(a c:Nat)(t:Bool)(b d:Nat):V:=mkQ (xorB s t) (Nat.mul a b) (Nat.mul c d)
def qlt(s:Bool)(a c:Nat)(t:Bool)(b d:Nat):Bool:=
 match s,t with
 |true,true=>Nat.blt (Nat.mul b c) (Nat.mul a d)
 |true,false=>true
 |false,true=>false
 |false,false=>Nat.blt (Nat.mul a d) (Nat.mul b c)
def qeq(s:Bool)(a c:Nat)(t:Bool)(b d:Nat):Bool:=Nat.beq a b&&Nat.beq c d&&(s==t)
def smB(a:Nat):Bool:=Nat.blt a 2147483648
def two(f:Bool->Nat->Nat->Bool->Nat->Nat->V)(vs:List V)(s:S):RO:=
 match vs with
 |[.qq a b c,.qq d e g]=> @Bool.rec (λ_=>RO) (.no [24]) (.ok (f a b c d e g) s) (smB b&&smB c&&(smB e&&smB g))
 |_=> .no [20]
def one(f:Bool->Nat->Nat->V)(vs:List V)(s:S):RO:=
 match vs with
 |[.qq a b c]=> @Bool.rec (λ_=>RO) (.no [24]) (.ok (f a b c) s) (smB b&&smB c)
 |_=> .no [20]
def qint(v:V):Option (Bool×Nat):=match v with| .nn .i64 n=> @Bool.rec (λ_=>Option (Bool×Nat)) none (some (false,n)) (Nat.ble n 4611686018427387904)| .zz .i64 n=> @Bool.rec (λ_=>Option (Bool×Nat)) none (some (true,n+1)) (Nat.blt n 4611686018427387904)|_=>none
def cmpV(s:Bool)(a c:Nat)(t:Bool)(b d:Nat):V:= @Bool.rec (λ_=>V) (@Bool.rec (λ_=>V) (.zz .i64 0) (.nn .i64 0) (qeq s a c t b d)) (.nn .i64 1) (qlt t b d s a c)
def bq1(a b:V):Bool:=match a with
 | .qq s n d=>(match b with| .qq s' n' d'=>qeq s n d s' n' d'|_=>false)
 | .nn .i64 n=>(match b with| .nn .i64 n'=>Nat.beq n n'|_=>false)
 | .zz .i64 n=>(match b with| .zz .i64 n'=>Nat.beq n n'|_=>false)
 | .bb x=>(match b with| .bb y=>x==y|_=>false)
 | .st l=>(match b with| .st l'=>beqN l l'|_=>false)
 |_=>false
def bqL:List V->List V->Bool:= @List.rec V (λ_=>List V->Bool) (λl=>match l with|[]=>true|_=>false) (λa _ ih l=>match l with|b::r=> @Bool.rec (λ_=>Bool) false (ih r) (bq1 a b)|[]=>false)
def bqV(a b:V):Bool:=match a with
 | .ag w l=>(match b with| .ag w' l'=>Nat.beq w w'&&bqL l l'|_=>false)
 | .tu l=>(match b with| .tu l'=>bqL l l'|_=>false)
 |_=>bq1 a b
def bqA:List V->List V->Bool:= @List.rec V (λ_=>List V->Bool) (λl=>match l with|[]=>true|_=>false) (λa _ ih l=>match l with|b::r=> @Bool.rec (λ_=>Bool) false (ih r) (bqV a b)|[]=>false)
def hsh(l:List V):Nat:= @List.rec V (λ_=>Nat) 0 (λv _ ih=>match v with| .nn _ n=>Nat.mod (Nat.add n (Nat.mul 5 ih)) 16| .qq _ n d=>Nat.mod (Nat.add n d) 3|_=>ih) l
def ME.res(e:ME):ME:=⟨e.o,3,0,e.w.length,e.w.length,e.w,[],e.v,[],false⟩
def j4(p:Pt)(vs:List V)(s:S):RO:=
 match p with
 | .add=>two qadd vs s
 | .sub=>two (λa b c d e f=>qadd a b c (!d) e f) vs s
 | .mul=>two qmul vs s
 | .cmp=>two cmpV vs s
 | .same=>two (λa b c d e f=> .bb (qeq a b c d e f)) vs s
 | .quo=>two (λa b c d e f=> @Bool.rec (λ_=>V) (.tu [qmul a b c d f e,.nn .i64 0]) (.tu [.qq false 0 1,.nn .i64 3]) (Nat.beq e 0)) vs s
 | .neg=>one (λa b c=> @Bool.rec (λ_=>V) (.qq (!a) b c) (.qq false 0 1) (Nat.beq b 0)) vs s
 | .abs=>one (λa b c=> .qq false b c) vs s
 | .sign=>one (λa b c=> @Bool.rec (λ_=>V) (@Bool.rec (λ_=>V) (.nn .i64 1) (.zz .i64 0) a) (.nn .i64 0) (Nat.beq b 0)) vs s
 | .idq=>one (λa b c=> .qq a b c) vs s
 | .int=>(match vs with|[v]=>(match qint v with|some (a,n)=> .ok (.qq a n 1) s|none=> .no [21])|_=> .no [22])
 | .make=>(match vs with|[u,v]=>(match qint u,qint v with|some (a,n),some (b,m)=> @Bool.rec (λ_=>RO) (.ok (.tu [mkQ (xorB a b) n m,.nn .i64 0]) s) (.no [25]) (Nat.beq m 0)|_,_=> .no [23])|_=> .no [22])
 | .mid=>(match vs with|[.qq _ b c,.qq _ e g]=> @Bool.rec (λ_=>RO) (.no [24]) (two (λa b c d e f=>match qadd a b c d e f with| .qq s n m=>qmul s n m false 1 2|v=>v) vs s) (Nat.blt b 16384&&Nat.blt c 16384&&(Nat.blt e 16384&&Nat.blt g 16384))|_=> .no [20])
 | .trim=>(match vs with|[.mg n]=> @Bool.rec (λ_=>RO) (.no [35]) (.ok (.mg n) s) (smB n)|_=> .no [32])
 | .small=>(match vs with|[.mg n,.nn .u32 u]=> @Bool.rec (λ_=>RO) (.no [33]) (.ok (.tu [.mg (Nat.div n u),.nn .u32 (Nat.mod n u)]) s) (smB n&&(Nat.blt 0 u&&Nat.blt u 4294967296))|_=> .no [34])
 | .memo L=> @List.rec (List V×V) (λ_=>RO) (.no [40]) (λp _ ih=> @Bool.rec (λ_=>RO) ih (.ok p.2 s) (bqA p.1 vs)) L
 | .sml=>one (λs a c=> @Bool.rec (λ_=>V) (.tu [.nn .i64 0,.bb false]) (.tu [@Bool.rec (λ_=>V) (.nn .i64 a) (@Nat.rec (λ_=>V) (.nn .i64 0) (λp _=> .zz .i64 p) a) s,.bb (Nat.blt a 268435456)]) (Nat.beq c 1&&Nat.blt a 4294967296)) vs s
 | .memoD L=>RR vs s L
 |_=> .no [0]
def prims(L:List (Nat×Pt)):vH:=λf=>match look L f with|some p=>some (j4 p)|none=>none
end
noncomputable section
def jm(a b:Bool):Bool:= @Bool.rec (λ_=>Bool) false b a
def notB(a:Bool):Bool:= @Bool.rec (λ_=>Bool) true false a
def keqF(a b:IntKind):Bool:=Nat.beq (kNum a) (kNum b)
def nnK(k:IntKind)(c:Nat)(K:V->RO):RO:= @Bool.rec (λ_=>RO) (K (nnW k c)) (K (.nn k c)) (Nat.blt c (kLim k))
structure HB where
 f:IntKind->Nat->Nat->(V->RO)->RO
def binH(op:BinOp):HB:=
 match op with
 | .add=>⟨λk a b K=>nnK k (Nat.add a b) K⟩
 | .sub=>⟨λk a b K=> @Bool.rec (λ_=>RO) (qF (binI .sub k a b) K) (K (.nn k (Nat.sub a b))) (jm (Nat.ble b a) (Nat.blt a (kLim k)))⟩
 | .mul=>⟨λk a b K=>nnK k (Nat.mul a b) K⟩
 | .quo=>⟨λk a b K=> @Bool.rec (λ_=>RO) (nnK k (Nat.div a b) K) (.no [96]) (Nat.beq b 0)⟩
 | .rem=>⟨λk a b K=> @Bool.rec (λ_=>RO) (K (.nn k (Nat.mod a b))) (.no [96]) (Nat.beq b 0)⟩
 | .eql=>⟨λk a b K=>K (.bb (Nat.beq a b))⟩
 | .neq=>⟨λk a b K=>K (.bb (notB (Nat.beq a b)))⟩
 | .lss=>⟨λk a b K=>K (.bb (Nat.blt a b))⟩
 | .leq=>⟨λk a b K=>K (.bb (Nat.ble a b))⟩
 | .gtr=>⟨λk a b K=>K (.bb (Nat.blt b a))⟩
 | .geq=>⟨λk a b K=>K (.bb (Nat.ble b a))⟩
 |op=>⟨λk a b K=>qF (binI op k a b) K⟩
def kbB:Option KB->(V->RO)->RO:= @Option.rec KB (λ_=>(V->RO)->RO) (λ_=> .no [94]) (@KB.rec (λ_=>(V->RO)->RO) (λv f=>f v) (λ_ _ _ _=> .no [94]) (λ_ _ _ _=> .no [94]) (λ_ _ _=> .no [94]) (λ_ _=> .no [94]))
def kbR:Option KB->(Nat->Nat->Sq V->RO)->(Nat->Nat->Sq V->RO)->RO:= @Option.rec KB (λ_=>(Nat->Nat->Sq V->RO)->(Nat->Nat->Sq V->RO)->RO) (λ_ _=> .no [95]) (@KB.rec (λ_=>(Nat->Nat->Sq V->RO)->(Nat->Nat->Sq V->RO)->RO) (λ_ _ _=> .no [95]) (λa b c f _=>f a b c) (λa b c _ g=>g a b c) (λ_ _ _ _=> .no [95]) (λ_ _ _=> .no [95]))
def AR(g:Bool)(s:Nat)(v:V)(o:Nat)(K:V->RO):RO:=
 @Bool.rec (λ_=>RO) (ld1 v o K) (ldA v s o K (qF (ldS true s v o []).res K)) g
def BT (g : Bool) (s : Nat) (m : qM) (p : V) (K : V -> RO) : RO :=
 qP p (λk o => kbB (zF m k) λv => AR g s v o K)
  (λk i o w => kbR (zF m k) (λes n q => @Bool.rec (λ_ => RO) (.no [98]) (AR g s (Sq.get .und q i) o K) (jm (Nat.beq w es) (Nat.blt i n)))
   (λes n q => @Bool.rec (λ_ => RO) (.no [98]) (AR g s (Sq.get .und q i) o K) (jm (Nat.beq w es) (Nat.blt i n))))
def layF(v:V)(o s:Nat)(x:V)(K:V->RO):RO:=
 (λz=>qX x s (stV v o s x K z) z) (@Option.rec V (λ_=>RO) (.no [96]) K (putV v o s x))
def setS(S0:S)(k:Key)(b:KB)(K:V->S->RO):RO:= @S.rec (λ_=>RO) (λm nx dn sc=>K (.tu []) ⟨AQ m k (some b),nx,dn,sc⟩) S0
def AW (s : Nat) (S0 : S) (p x : V) (K : V -> S -> RO) : RO :=
 qP p (λk o => kbB (zF S0.m k) λv => layF v o s x λy => setS S0 k (.bx y) K)
  (λk i o w => kbR (zF S0.m k)
   (λes n q => @Bool.rec (λ_ => RO) (.no [98]) (layF (Sq.get .und q i) o s x λy => setS S0 k (.arr es n (Sq.set y q i)) K) (jm (Nat.beq w es) (Nat.blt i n)))
   (λes n q => @Bool.rec (λ_ => RO) (.no [98]) (layF (Sq.get .und q i) o s x λy => setS S0 k (.gro es n (Sq.set y q i)) K) (jm (Nat.beq w es) (Nat.blt i n))))
def nxD:D16->(D16->RO)->RO->RO:= @D16.rec (λ_=>(D16->RO)->RO->RO)
 (λf _=>f .d1) (λf _=>f .d2) (λf _=>f .d3) (λf _=>f .d4) (λf _=>f .d5) (λf _=>f .d6) (λf _=>f .d7) (λf _=>f .d8) (λf _=>f .d9) (λf _=>f .d10) (λf _=>f .d11) (λf _=>f .d12) (λf _=>f .d13) (λf _=>f .d14) (λf _=>f .d15) (λ_ z=>z)
def BY(k:Key)(f:Key->RO):RO:= @Key.rec (λ_=>RO) (λa b c d=>nxD d (λd=>f ⟨a,b,c,d⟩) (nxD c (λc=>f ⟨a,b,c,.d0⟩) (nxD b (λb=>f ⟨a,b,.d0,.d0⟩) (nxD a (λa=>f ⟨a,.d0,.d0,.d0⟩) (.no []))))) k
def newF(S0:S)(v:V)(K:V->S->RO):RO:= @S.rec (λ_=>RO) (λm nx dn sc=>BY nx λk'=>K (.pp nx 0) ⟨AQ m nx (some (.bx v)),k',dn,sc⟩) S0
def roK(r:RO)(K:V->S->RO):RO:= @RO.rec (λ_=>RO) (λv s=>K v s) (λt=> .no t) (λn=> .need n) r
abbrev Row:=N16 V
structure Rc where
 call:FuncId->Row->Nat->S->RO
structure LC (γ:Type) where
 ih:Env16->S->RO
 up:γ
structure CK (γ:Type) where
 f:γ->Env16->S->RO
structure CF (γ α:Type) where
 f:γ->α->Env16->S->RO
structure RG (γ:Type) where
 f:γ->FuncId->Row->Nat->S->RO
structure Fm (α:Type) where
 v:V
 r:α
inductive Src (α:Type) where
 |c (v:V)
 |g (d:Bool) (dep:Nat) (f:α->Env16->V)
 |dead
abbrev Mp(α:Type):=List (Nat×Src α)
structure GV (α:Type) where
 f:α->Env16->V
structure VL (α:Type) where
 f:α->Env16->List V
structure CD (α:Type) where
 f:α->Env16->RO->RO
structure VC (α:Type) where
 f:α->Env16->S->(V->RO)->RO
structure OC (γ α:Type) where
 f:γ->α->Env16->S->(V->S->RO)->RO
structure HK (α:Type) where
 f:α->Env16->S->KR
structure GS (α:Type) where
 f:α->S
def Src.up{α:Type}(x:Src α):Src (Fm α):=match x with| .c v=> .c v| .g d n f=> .g d n (λfr e=>f fr.r e)| .dead=> .dead
def upM{α:Type}(m:Mp α):Mp (Fm α):=m.map λp=>(p.1,p.2.up)
def Rj{α:Type}(t:Nat)(y:Src α):Src α:=match y with| .g d n f=>bif Nat.beq n (t+1)then .dead else .g d n f|y=>y
def zO{α:Type}(t:Nat)(m:Mp α):Mp α:=m.map λp=>(p.1,Rj t p.2)
def vq{α:Type}(t:Nat):Mp α->Option (Src α)
 |[]=>none
 |p::r=>bif Nat.beq p.1 t then some p.2 else vq t r
def gT0(t:Nat):GE:=gTab (D16.of (Nat.div t 16)) (D16.of (Nat.mod t 16))
def sT0(t:Nat):SE:=sTab (D16.of (Nat.div t 16)) (D16.of (Nat.mod t 16))
def swE(e:Env16):Env16:=⟨e.hi,e.lo⟩
def gT(t:Nat):GE:=bif Nat.blt t 256 then gT0 t else(match gT0 (Nat.sub t 256)with|⟨f⟩=>⟨λe=>f (swE e)⟩)
def sT(t:Nat):SE:=bif Nat.blt t 256 then sT0 t else(match sT0 (Nat.sub t 256)with|⟨g⟩=>⟨λv e=>swE (g v (swE e))⟩)
abbrev Kont(γ α:Type):=(β:Type)->(β->α)->Mp β->Nat->CF γ β
section
variable {γ α:Type} (P:Program) (pr:vH) (rg:RG γ) (loc D:Nat) (m:Mp α) (k:Kont γ α)
def src(x:Operand):Option (Src α):=
 match x with
 | .tmp t=>bif Nat.testBit loc t then(match vq t m with|some .dead=>none|y=>y)else(bif Nat.blt t 512 then(match gT t with|⟨f⟩=>some (.g (Nat.testBit D t) (t+1) λ_ e=>f e))else none)
 | .const v=>frcV (jP v) (λc=>some (.c c)) none
 | .func f=>some (.c (.uu (.func (.func f) #[] #[])))
 | .global _=>none
def gv(x:Operand):Option (GV α):=match src loc D m x with|some (.c v)=>some ⟨λ_ _=>v⟩|some (.g _ _ f)=>some ⟨f⟩|_=>none
def gvD(x:Operand):Option (GV α):=match src loc D m x with|some (.c v)=>some ⟨λ_ _=>v⟩|some (.g true _ f)=>some ⟨f⟩|_=>none
def gvs:List Operand->Option (VL α)
 |[]=>some ⟨λ_ _=>[]⟩
 |x::r=>match gv loc D m x,gvs r with
  |some ⟨g⟩,some ⟨l⟩=>some ⟨λfr e=>g fr e::l fr e⟩
  |_,_=>none
def dfs:List Operand->Option (CD α)
 |[]=>some ⟨λ_ _ z=>z⟩
 |x::r=>match src loc D m x,dfs r with
  |some (.c _),l=>l
  |some (.g true _ _),l=>l
  |some (.g false _ f),some ⟨l⟩=>some ⟨λfr e z=>qD (f fr e) (l fr e z)⟩
  |_,_=>none
structure RW (α:Type) where
 f:α->Env16->Row
def GP(l:List Operand):Option (RW α):=
 match l with
 |[]=>some ⟨λ_ _=>⟨.und,.und,.und,.und,.und,.und,.und,.und,.und,.und,.und,.und,.und,.und,.und,.und⟩⟩
 |[a]=>(match gv loc D m a with|some ⟨a⟩=>some ⟨λfr e=>⟨a fr e,.und,.und,.und,.und,.und,.und,.und,.und,.und,.und,.und,.und,.und,.und,.und⟩⟩|_=>none)
 |[a,b]=>(match gv loc D m a,gv loc D m b with|some ⟨a⟩,some ⟨b⟩=>some ⟨λfr e=>⟨a fr e,b fr e,.und,.und,.und,.und,.und,.und,.und,.und,.und,.und,.und,.und,.und,.und⟩⟩|_,_=>none)
 |[a,b,c]=>(match gv loc D m a,gv loc D m b,gv loc D m c with|some ⟨a⟩,some ⟨b⟩,some ⟨c⟩=>some ⟨λfr e=>⟨a fr e,b fr e,c fr e,.und,.und,.und,.und,.und,.und,.und,.und,.und,.und,.und,.und,.und⟩⟩|_,_,_=>none)
 |l=>(match gvs loc D m l with|some ⟨l⟩=>some ⟨λfr e=>(jz (l fr e)).c0⟩|none=>none)
def badC:CF γ α:=⟨λ_ _ _ _=> .no [99]⟩
def M1(dst:Option Tmp)(h:VC α):CF γ α:=
 match h with
 |⟨h⟩=>match dst with
  |none=>(match k α id m D with|⟨K⟩=>⟨λc fr e s=>h fr e s λ_=>K c fr e s⟩)
  |some t=>bif Nat.testBit loc t then(match k (Fm α) (λf=>f.r) ((t,.g true 0 λfr _=>fr.v)::upM m) D with|⟨K⟩=>⟨λc fr e s=>h fr e s λv=>K c ⟨v,fr⟩ e s⟩)
   else(match k α id (zO t m) (D|||2^t),sT t with|⟨K⟩,⟨st⟩=>⟨λc fr e s=>h fr e s λv=>K c fr (st v e) s⟩)
def Rp:PSigma λF=>F= @M1:=by
 delta M1
 try delta AR
 try delta BT
 try delta layF
 try delta AW
 try delta newF
 try delta BY
 try delta nxD
 try delta setS
 try delta roK
 try delta kbB
 try delta kbR
 try delta nnK
 try delta jm
 try delta notB
 try delta kbB
 try delta kbR
 try delta qNN
 try delta qN
 try delta qP
 try delta qS
 try delta qB
 try delta qG
 try delta qD
 try delta qF
 try delta qC
 try delta qZ
 try delta qX
 try delta qT
 try delta qK
 try delta ld1
 try delta ldA
 try delta stV
 try delta uAt
 try delta Dj
 try delta uAt3
 try delta CL
 try delta Dk
 try delta Dl
 try delta zF
 try delta AQ
 try delta mg1
 try delta mg2
 try delta mg3
 try delta mg4
 try delta ms1
 try delta ms2
 try delta ms3
 try delta ms4
 try delta Env16.lo
 try delta Env16.hi
 try delta S.m
 try delta S.nx
 try delta Fm.v
 try delta Fm.r
 try delta Fs.s
 try delta Fs.r
 try delta LC.ih
 try delta LC.up
 try delta Rc.call
 try delta CF.f
 try delta CK.f
 try delta N16.c0
 try delta N16.c1
 try delta N16.c2
 try delta N16.c3
 try delta N16.c4
 try delta N16.c5
 try delta N16.c6
 try delta N16.c7
 try delta N16.c8
 try delta N16.c9
 try delta N16.c10
 try delta N16.c11
 try delta N16.c12
 try delta N16.c13
 try delta N16.c14
 try delta N16.c15
 exact⟨_,rfl⟩
def finV(dst:Option Tmp)(h:VC α):CF γ α:=Rp.1 loc D m k dst h
def M0(dst:Option Tmp)(h:OC γ α):CF γ α:=
 match h with
 |⟨h⟩=>match dst with
  |none=>(match k α id m D with|⟨K⟩=>⟨λc fr e s=>h c fr e s λ_ s'=>K c fr e s'⟩)
  |some t=>bif Nat.testBit loc t then(match k (Fm α) (λf=>f.r) ((t,.g true 0 λfr _=>fr.v)::upM m) D with|⟨K⟩=>⟨λc fr e s=>h c fr e s λv s'=>K c ⟨v,fr⟩ e s'⟩)
   else(match k α id (zO t m) (D|||2^t),sT t with|⟨K⟩,⟨st⟩=>⟨λc fr e s=>h c fr e s λv s'=>K c fr (st v e) s'⟩)
def Ro:PSigma λF=>F= @M0:=by
 delta M0
 try delta AR
 try delta BT
 try delta layF
 try delta AW
 try delta newF
 try delta BY
 try delta nxD
 try delta setS
 try delta roK
 try delta kbB
 try delta kbR
 try delta nnK
 try delta jm
 try delta notB
 try delta kbB
 try delta kbR
 try delta qNN
 try delta qN
 try delta qP
 try delta qS
 try delta qB
 try delta qG
 try delta qD
 try delta qF
 try delta qC
 try delta qZ
 try delta qX
 try delta qT
 try delta qK
 try delta ld1
 try delta ldA
 try delta stV
 try delta uAt
 try delta Dj
 try delta uAt3
 try delta CL
 try delta Dk
 try delta Dl
 try delta zF
 try delta AQ
 try delta mg1
 try delta mg2
 try delta mg3
 try delta mg4
 try delta ms1
 try delta ms2
 try delta ms3
 try delta ms4
 try delta Env16.lo
 try delta Env16.hi
 try delta S.m
 try delta S.nx
 try delta Fm.v
 try delta Fm.r
 try delta Fs.s
 try delta Fs.r
 try delta LC.ih
 try delta LC.up
 try delta Rc.call
 try delta CF.f
 try delta CK.f
 try delta N16.c0
 try delta N16.c1
 try delta N16.c2
 try delta N16.c3
 try delta N16.c4
 try delta N16.c5
 try delta N16.c6
 try delta N16.c7
 try delta N16.c8
 try delta N16.c9
 try delta N16.c10
 try delta N16.c11
 try delta N16.c12
 try delta N16.c13
 try delta N16.c14
 try delta N16.c15
 exact⟨_,rfl⟩
def finO(dst:Option Tmp)(h:OC γ α):CF γ α:=Ro.1 loc D m k dst h
def LZ(dst:Option Tmp)(x:Src α):CF γ α:=
 match x,dst with
 | .c v,some t=>bif Nat.testBit loc t then k α id ((t,.c v)::m) D else(match k α id (zO t m) (D|||2^t),sT t with|⟨K⟩,⟨st⟩=>⟨λc fr e s=>K c fr (st v e) s⟩)
 | .g true n f,some t=>bif Nat.testBit loc t then k α id ((t,.g true n f)::m) D else(match k α id (zO t m) (D|||2^t),sT t with|⟨K⟩,⟨st⟩=>⟨λc fr e s=>K c fr (st (f fr e) e) s⟩)
 | .g false n f,some t=>bif Nat.testBit loc t then(match k α id ((t,.g true n f)::m) D with|⟨K⟩=>⟨λc fr e s=>qD (f fr e) (K c fr e s)⟩)else(match k α id (zO t m) (D|||2^t),sT t with|⟨K⟩,⟨st⟩=>⟨λc fr e s=>qF (f fr e) λv=>K c fr (st v e) s⟩)
 |_,_=>badC
def Rm:PSigma λF=>F= @LZ:=by
 delta LZ
 try delta AR
 try delta BT
 try delta layF
 try delta AW
 try delta newF
 try delta BY
 try delta nxD
 try delta setS
 try delta roK
 try delta kbB
 try delta kbR
 try delta nnK
 try delta jm
 try delta notB
 try delta kbB
 try delta kbR
 try delta qNN
 try delta qN
 try delta qP
 try delta qS
 try delta qB
 try delta qG
 try delta qD
 try delta qF
 try delta qC
 try delta qZ
 try delta qX
 try delta qT
 try delta qK
 try delta ld1
 try delta ldA
 try delta stV
 try delta uAt
 try delta Dj
 try delta uAt3
 try delta CL
 try delta Dk
 try delta Dl
 try delta zF
 try delta AQ
 try delta mg1
 try delta mg2
 try delta mg3
 try delta mg4
 try delta ms1
 try delta ms2
 try delta ms3
 try delta ms4
 try delta Env16.lo
 try delta Env16.hi
 try delta S.m
 try delta S.nx
 try delta Fm.v
 try delta Fm.r
 try delta Fs.s
 try delta Fs.r
 try delta LC.ih
 try delta LC.up
 try delta Rc.call
 try delta CF.f
 try delta CK.f
 try delta N16.c0
 try delta N16.c1
 try delta N16.c2
 try delta N16.c3
 try delta N16.c4
 try delta N16.c5
 try delta N16.c6
 try delta N16.c7
 try delta N16.c8
 try delta N16.c9
 try delta N16.c10
 try delta N16.c11
 try delta N16.c12
 try delta N16.c13
 try delta N16.c14
 try delta N16.c15
 exact⟨_,rfl⟩
def finM(dst:Option Tmp)(x:Src α):CF γ α:=Rm.1 loc D m k dst x
structure NT where
 f:List V->(V->RO)->RO
def nthC:Nat->NT
 |0=>⟨λl K=> @List.rec V (λ_=>RO) (.no [97]) (λv _ _=>qF v K) l⟩
 |n+1=>match nthC n with|⟨g⟩=>⟨λl K=> @List.rec V (λ_=>RO) (.no [97]) (λ_ r _=>g r K) l⟩
def vm (op : Op) : Option (VC α) :=
 match op with
 | .load t x => (match gv loc D m x, qQ P t with
  | some ⟨g⟩, some (true, sz) => some ⟨λfr e s K => qP (g fr e) (λk o => kbB (zF s.m k) λv => ldA v sz o K (qF (ldS true sz v o []).res K))
    (λk i o w => kbR (zF s.m k) (λes n q => @Bool.rec (λ_ => RO) (.no [98]) ((λv => ldA v sz o K (qF (ldS true sz v o []).res K)) (Sq.get .und q i)) (jm (Nat.beq w es) (Nat.blt i n)))
     (λes n q => @Bool.rec (λ_ => RO) (.no [98]) ((λv => ldA v sz o K (qF (ldS true sz v o []).res K)) (Sq.get .und q i)) (jm (Nat.beq w es) (Nat.blt i n))))⟩
  | some ⟨g⟩, some (false, 1) => some ⟨λfr e s K => qP (g fr e) (λk o => kbB (zF s.m k) λv => ld1 v o K)
    (λk i o w => kbR (zF s.m k) (λes n q => @Bool.rec (λ_ => RO) (.no [98]) (ld1 (Sq.get .und q i) o K) (jm (Nat.beq w es) (Nat.blt i n)))
     (λes n q => @Bool.rec (λ_ => RO) (.no [98]) (ld1 (Sq.get .und q i) o K) (jm (Nat.beq w es) (Nat.blt i n))))⟩
  | _, _ => none)
 | .binOp op t x y _ => (match gv loc D m x, src loc D m y with
  | some ⟨x⟩, some sy => bif isSh op then (match gv loc D m y with | some ⟨y⟩ => some ⟨λfr e _ K => qF (kBin P op t (x fr e) (y fr e)).res K⟩ | none => none)
   else (match binH op, sy with
    | ⟨h⟩, .c (.nn kc c) => some ⟨λfr e _ K => qNN (x fr e) (λk a => @Bool.rec (λ_ => RO) (.no [92]) (h k a c K) (keqF k kc)) λx => qF (kBin P op t x (.nn kc c)).res K⟩
    | ⟨h⟩, .c y => some ⟨λfr e _ K => qF (kBin P op t (x fr e) y).res K⟩
    | _, .dead => none
    | ⟨h⟩, .g _ _ y => some ⟨λfr e _ K => qNN (x fr e) (λk a => qNN (y fr e) (λk' b => @Bool.rec (λ_ => RO) (.no [92]) (h k a b K) (keqF k k')) λy => qF (kBin P op t (.nn k a) y).res K) λx => qF (kBin P op t x (y fr e)).res K⟩)
  | _, _ => none)
 | .fieldAddr s x f => (match gv loc D m x, zh P s f with
  | some ⟨g⟩, some (0, _, sz) => bif Nat.beq sz 0 then none else some ⟨λfr e _ K => qP (g fr e) (λk o => K (.pp k o)) λk i o w => K (.ee k i o w)⟩
  | some ⟨g⟩, some (fo, _, sz) => bif Nat.beq sz 0 then none else some ⟨λfr e _ K => qP (g fr e) (λk o => K (.pp k (Nat.add o fo))) λk i o w => K (.ee k i (Nat.add o fo) w)⟩
  | _, _ => none)
 | .indexAddr t x y => (match gv loc D m x, gv loc D m y with
  | some ⟨x⟩, some ⟨y⟩ => (match Ie P t with
   | some (n, s) => some ⟨λfr e _ K => qN (y fr e) λj => qP (x fr e) (λk o => @Bool.rec (λ_ => RO) (.no [98]) (K (.pp k (Nat.add o (Nat.mul j s)))) (Nat.blt j n)) (λk q o w => @Bool.rec (λ_ => RO) (.no [98]) (K (.ee k q (Nat.add o (Nat.mul j s)) w)) (Nat.blt j n))⟩
   | none => (match jx P t with
    | some es => some ⟨λfr e _ K => qN (y fr e) λj => qS (x fr e) (λk lo n c w => @Bool.rec (λ_ => RO) (.no [98]) (K (.ee k (Nat.add lo j) 0 w)) (jm (Nat.beq es w) (Nat.blt j n))) (λk lo n w => @Bool.rec (λ_ => RO) (.no [98]) (K (.ee k (Nat.add lo j) 0 w)) (jm (Nat.beq es w) (Nat.blt j n))) λ_ => .no [98]⟩
    | none => none))
  | _, _ => none)
 | .nilCheck x => (match gv loc D m x with | some ⟨x⟩ => some ⟨λfr e _ K => qP (x fr e) (λk o => K (.pp k o)) λk i o w => K (.ee k i o w)⟩ | none => none)
 | .unOp .not _ x => (match gv loc D m x with | some ⟨x⟩ => some ⟨λfr e _ K => qB (x fr e) λb => K (.bb (notB b))⟩ | none => none)
 | .unOp op _ x => (match gv loc D m x with | some ⟨x⟩ => some ⟨λfr e _ K => qF (kUn P op (x fr e)).res K⟩ | none => none)
 | .pick c x y => (match gvD loc D m x, gvD loc D m y, gv loc D m c with
  | some ⟨x⟩, some ⟨y⟩, some ⟨c⟩ => some ⟨λfr e _ K => qB (c fr e) λb => @Bool.rec (λ_ => RO) (K (y fr e)) (K (x fr e)) b⟩
  | _, _, _ => (match gv loc D m x, gv loc D m y, gv loc D m c with
   | some ⟨x⟩, some ⟨y⟩, some ⟨c⟩ => some ⟨λfr e _ K => qF (D2 (c fr e) (x fr e) (y fr e)).res K⟩
   | _, _, _ => none))
 | .convert s t x => (match gv loc D m x, intK P t, P.underlying s with
  | some ⟨x⟩, some k, some _ => some ⟨λfr e _ K => qNN (x fr e) (λ_ n => nnK k n K) λx => qF (D1 P s t x).res K⟩
  | _, _, _ => none)
 | .extract x i => (match gv loc D m x, nthC i with | some ⟨x⟩, ⟨g⟩ => some ⟨λfr e _ K => qT (x fr e) λl => g l K⟩ | none, _ => none)
 | .field s x f => (match gv loc D m x with | some ⟨x⟩ => some ⟨λfr e _ K => qF (Cw P s f (x fr e)).res K⟩ | none => none)
 | .index t x y => (match gv loc D m x, gv loc D m y with | some ⟨x⟩, some ⟨y⟩ => some ⟨λfr e _ K => qF (Cy P t (x fr e) (y fr e)).res K⟩ | _, _ => none)
 | .build t ps => (match gvs loc D m (ps.toList.map (·.2)) with | some ⟨l⟩ => some ⟨λfr e _ K => qF (Cv P t (ps.toList.map (·.1)) (l fr e)).res K⟩ | none => none)
 | .makeFunc fn fs cs => (match gvs loc D m fs.toList, gvs loc D m cs.toList with | some ⟨l0⟩, some ⟨l⟩ => some ⟨λfr e _ K => qF (EC fn (l0 fr e) (l fr e)).res K⟩ | _, _ => none)
 | .slice t x lo hi none => (match gv loc D m x with
  | some ⟨g⟩ => (match lo, hi with
   | none, none => some ⟨λfr e _ K => qF (vV P t (g fr e) none none).res K⟩
   | some l, none => (match gv loc D m l with | some ⟨gl⟩ => some ⟨λfr e _ K => qF (vV P t (g fr e) (some (gl fr e)) none).res K⟩ | none => none)
   | none, some h => (match gv loc D m h with | some ⟨gh⟩ => some ⟨λfr e _ K => qF (vV P t (g fr e) none (some (gh fr e))).res K⟩ | none => none)
   | some l, some h => (match gv loc D m l, gv loc D m h with | some ⟨gl⟩, some ⟨gh⟩ => some ⟨λfr e _ K => qF (vV P t (g fr e) (some (gl fr e)) (some (gh fr e))).res K⟩ | _, _ => none))
  | none => none)
 | .call { callee := .builtin .len, args := xs, argTypes := ts } => (match xs.toList, ts.toList with
  | [x], [t] => (match gv loc D m x with
   | some ⟨g⟩ => bif jB P t then some ⟨λfr e _ K => qS (g fr e) (λk lo n c w => K (.nn .i64 n)) (λk lo n w => K (.nn .i64 n)) λv => qF (kLen P t v).res K⟩ else some ⟨λfr e _ K => qF (kLen P t (g fr e)).res K⟩
   | none => none)
  | _, _ => none)
 | _ => none
def MY:PSigma λF=>F= @vm:=by
 delta vm
 try delta AR
 try delta BT
 try delta layF
 try delta AW
 try delta newF
 try delta BY
 try delta nxD
 try delta setS
 try delta roK
 try delta kbB
 try delta kbR
 try delta nnK
 try delta jm
 try delta notB
 try delta kbB
 try delta kbR
 try delta qNN
 try delta qN
 try delta qP
 try delta qS
 try delta qB
 try delta qG
 try delta qD
 try delta qF
 try delta qC
 try delta qZ
 try delta qX
 try delta qT
 try delta qK
 try delta ld1
 try delta ldA
 try delta stV
 try delta uAt
 try delta Dj
 try delta uAt3
 try delta CL
 try delta Dk
 try delta Dl
 try delta zF
 try delta AQ
 try delta mg1
 try delta mg2
 try delta mg3
 try delta mg4
 try delta ms1
 try delta ms2
 try delta ms3
 try delta ms4
 try delta Env16.lo
 try delta Env16.hi
 try delta S.m
 try delta S.nx
 try delta Fm.v
 try delta Fm.r
 try delta Fs.s
 try delta Fs.r
 try delta LC.ih
 try delta LC.up
 try delta Rc.call
 try delta CF.f
 try delta CK.f
 try delta N16.c0
 try delta N16.c1
 try delta N16.c2
 try delta N16.c3
 try delta N16.c4
 try delta N16.c5
 try delta N16.c6
 try delta N16.c7
 try delta N16.c8
 try delta N16.c9
 try delta N16.c10
 try delta N16.c11
 try delta N16.c12
 try delta N16.c13
 try delta N16.c14
 try delta N16.c15
 exact⟨_,rfl⟩
def Rh(op:Op):Option (VC α):=MY.1 P loc D m op
def Ah(op:Op):Option (HK α):=
 match op with
 | .buildSlice t n ps=>(match gvs loc D m (ps.toList.map (·.2))with|some ⟨l⟩=>some ⟨λfr e s=>zb P t n (ps.toList.map (·.1)) (l fr e) s.nx⟩|none=>none)
 | .makeSlice t x y=>(match gv loc D m x,gv loc D m y with|some ⟨gx⟩,some ⟨gy⟩=>some ⟨λfr e s=>zE P t (gx fr e) (gy fr e) s.nx⟩|_,_=>none)
 | .makeMap t none=>some ⟨λ_ _ s=>B8 P t s.nx⟩
 | .lookup t x y c=>(match gv loc D m x,gv loc D m y with|some ⟨gx⟩,some ⟨gy⟩=>some ⟨λfr e s=>vn P s.m t c (gx fr e) (gy fr e)⟩|_,_=>none)
 | .mapUpdate t x y z=>(match gv loc D m x,gv loc D m y,gv loc D m z with|some ⟨gx⟩,some ⟨gy⟩,some ⟨gz⟩=>some ⟨λfr e s=>DL P s.m t (gx fr e) (gy fr e) (gz fr e)⟩|_,_,_=>none)
 | .mapEntry t x y=>(match gv loc D m x,gv loc D m y with|some ⟨gx⟩,some ⟨gy⟩=>some ⟨λfr e s=>AA P s.m t (gx fr e) (gy fr e)⟩|_,_=>none)
 | .entryStore _ x y z=>(match gv loc D m x,gv loc D m y,gv loc D m z with|some ⟨gx⟩,some ⟨gy⟩,some ⟨gz⟩=>some ⟨λfr e s=>wv s.m (gx fr e) (gy fr e) (gz fr e)⟩|_,_,_=>none)
 | .convert s t x=>(match gv loc D m x with|some ⟨gx⟩=>some ⟨λfr e S0=>wo P S0.m s t (gx fr e)⟩|none=>none)
 | .call {callee:= .builtin b,args:=xs,argTypes:=ts}=>(match gvs loc D m xs.toList with
  |some ⟨l⟩=>(match b with
   | .append=>(match ts.toList,xs.toList with
    |[t,u],[x,y]=>(match gv loc D m x,gv loc D m y with|some ⟨gx⟩,some ⟨gy⟩=>some ⟨λfr e s=>DK P t u s.m (gx fr e) (gy fr e) s.nx⟩|_,_=>none)
    |_,_=>none)
   |b=>some ⟨λfr e s=>zo P b ts.toList (l fr e) s.m s.nx⟩)
  |none=>none)
 |_=>none
def Is(op:Op):Option (OC γ α):=
 match op with
 | .store t x y=>(match gv loc D m x,gv loc D m y,qQ P t with|some ⟨x⟩,some ⟨y⟩,some (_,sz)=>some ⟨λ_ fr e s K=>AW sz s (x fr e) (y fr e) K⟩|_,_,_=>none)
 | .alloc t=>frcV (zeroV P t) (λz=>some ⟨λ_ _ _ s K=>newF s z K⟩) none
 | .box _ x=>(match gv loc D m x with|some ⟨g⟩=>some ⟨λ_ fr e s K=>qK (g fr e) λv=>newF s v K⟩|none=>none)
 | .call {callee:= .value f,args:=xs,argTypes:=_}=>(match f with
  | .func g=>(match pr g with
   |some h=>(match gvs loc D m xs.toList,dfs loc D m xs.toList with|some ⟨l⟩,some ⟨d⟩=>some ⟨λ_ fr e s K=>d fr e (roK (h (l fr e) s) λv s=>qF v λv=>K v s)⟩|_,_=>none)
   |none=>(match GP loc D m xs.toList,dfs loc D m xs.toList,rg with|some ⟨w⟩,some ⟨d⟩,⟨r⟩=>some ⟨λc fr e s K=>d fr e (roK (r c g (w fr e) xs.size s) K)⟩|_,_,_=>none))
  |f=>(match gv loc D m f,gvs loc D m xs.toList,dfs loc D m xs.toList,rg with
   |some ⟨f⟩,some ⟨l⟩,some ⟨d⟩,⟨r⟩=>some ⟨λc fr e s K=> @Option.rec (FuncId×List (Key×Nat)) (λ_=>RO) (.no [4]) (λp=>d fr e (roK ((λvs=>r c p.1 (jz vs).c0 vs.length s) (AS (f fr e)++(l fr e++p.2.map λp=> .pp p.1 p.2))) K)) (zl (f fr e))⟩
   |_,_,_,_=>none))
 |op=>(match Ah P loc D m op with|some ⟨h⟩=>some ⟨λ_ fr e s K=>roK (ap s (h fr e s)) λv s=>qF v λv=>K v s⟩|none=>none)
def MV:PSigma λF=>F= @Is:=by
 delta Is
 try delta AR
 try delta BT
 try delta layF
 try delta AW
 try delta newF
 try delta BY
 try delta nxD
 try delta setS
 try delta roK
 try delta kbB
 try delta kbR
 try delta nnK
 try delta jm
 try delta notB
 try delta kbB
 try delta kbR
 try delta qNN
 try delta qN
 try delta qP
 try delta qS
 try delta qB
 try delta qG
 try delta qD
 try delta qF
 try delta qC
 try delta qZ
 try delta qX
 try delta qT
 try delta qK
 try delta ld1
 try delta ldA
 try delta stV
 try delta uAt
 try delta Dj
 try delta uAt3
 try delta CL
 try delta Dk
 try delta Dl
 try delta zF
 try delta AQ
 try delta mg1
 try delta mg2
 try delta mg3
 try delta mg4
 try delta ms1
 try delta ms2
 try delta ms3
 try delta ms4
 try delta Env16.lo
 try delta Env16.hi
 try delta S.m
 try delta S.nx
 try delta Fm.v
 try delta Fm.r
 try delta Fs.s
 try delta Fs.r
 try delta LC.ih
 try delta LC.up
 try delta Rc.call
 try delta CF.f
 try delta CK.f
 try delta N16.c0
 try delta N16.c1
 try delta N16.c2
 try delta N16.c3
 try delta N16.c4
 try delta N16.c5
 try delta N16.c6
 try delta N16.c7
 try delta N16.c8
 try delta N16.c9
 try delta N16.c10
 try delta N16.c11
 try delta N16.c12
 try delta N16.c13
 try delta N16.c14
 try delta N16.c15
 exact⟨_,rfl⟩
def LU(op:Op):Option (OC γ α):=MV.1 P pr rg loc D m op
def It(o:Oper):CF γ α:=
 match(match o.op with| .move x=>src loc D m x| .assign x=>src loc D m x|_=>none)with
 |some x=>finM loc D m k o.dst x
 |none=>(match Rh P loc D m o.op with
  |some h=>finV loc D m k o.dst h
  |none=>(match LU P pr rg loc D m o.op with
   |some h=>finO loc D m k o.dst h
   |none=>badC))
def isS(op:Op):Bool:=match op with| .slice _ _ (some _) (some _) _=>true|_=>false
def LV(op:Op):Option (HK α):=
 match op with
 | .slice t x (some l) (some h) none=>(match gv loc D m x,gv loc D m l,gv loc D m h with|some ⟨gx⟩,some ⟨gl⟩,some ⟨gh⟩=>some ⟨λfr e s=>Ca P s.m t (gx fr e) (gl fr e) (gh fr e)⟩|_,_,_=>none)
 | .slice t x (some l) (some h) (some z)=>(match gv loc D m x,gv loc D m l,gv loc D m h,gv loc D m z with|some ⟨gx⟩,some ⟨gl⟩,some ⟨gh⟩,some ⟨gz⟩=>some ⟨λfr e _=>C9 P t (gx fr e) (gl fr e) (gh fr e) (gz fr e)⟩|_,_,_,_=>none)
 |_=>none
def JJ(o:Oper):CF γ α:=
 bif isS o.op then(match LV P loc D m o.op with
  |some ⟨h⟩=>finO loc D m k o.dst ⟨λ_ fr e s K=>roK (ap s (h fr e s)) λv s=>qF v λv=>K v s⟩
  |none=>badC)else It P pr rg loc D m k o
def gdC0(all:List Oper)(o:Oper)(run skip:CF γ α):CF γ α:=
 match o.guard with
 |none=>run
 |some (j,w)=>(match(all[j]?).bind (·.dst)with
  |some t=>(match gv loc D m (.tmp t)with
   |some ⟨g⟩=>(match o.dst with
    |some d=>bif Nat.testBit loc d then badC else(match sT d with
     |⟨st⟩=>⟨λc fr e s=>qG (g fr e) (λb=> @Bool.rec (λ_=>RO) (skip.f c fr (st (.tu []) e) s) (run.f c fr e s) (@Bool.rec (λ_=>Bool) (notB b) b w)) (skip.f c fr (st (.tu []) e) s)⟩)
    |none=>⟨λc fr e s=>qG (g fr e) (λb=> @Bool.rec (λ_=>RO) (skip.f c fr e s) (run.f c fr e s) (@Bool.rec (λ_=>Bool) (notB b) b w)) (skip.f c fr e s)⟩)
   |none=>badC)
  |none=>badC)
def gdCP:PSigma λF=>F= @gdC0:=by
 delta gdC0
 try delta AR
 try delta BT
 try delta layF
 try delta AW
 try delta newF
 try delta BY
 try delta nxD
 try delta setS
 try delta roK
 try delta kbB
 try delta kbR
 try delta nnK
 try delta jm
 try delta notB
 try delta kbB
 try delta kbR
 try delta qNN
 try delta qN
 try delta qP
 try delta qS
 try delta qB
 try delta qG
 try delta qD
 try delta qF
 try delta qC
 try delta qZ
 try delta qX
 try delta qT
 try delta qK
 try delta ld1
 try delta ldA
 try delta stV
 try delta uAt
 try delta Dj
 try delta uAt3
 try delta CL
 try delta Dk
 try delta Dl
 try delta zF
 try delta AQ
 try delta mg1
 try delta mg2
 try delta mg3
 try delta mg4
 try delta ms1
 try delta ms2
 try delta ms3
 try delta ms4
 try delta Env16.lo
 try delta Env16.hi
 try delta S.m
 try delta S.nx
 try delta Fm.v
 try delta Fm.r
 try delta Fs.s
 try delta Fs.r
 try delta LC.ih
 try delta LC.up
 try delta Rc.call
 try delta CF.f
 try delta CK.f
 try delta N16.c0
 try delta N16.c1
 try delta N16.c2
 try delta N16.c3
 try delta N16.c4
 try delta N16.c5
 try delta N16.c6
 try delta N16.c7
 try delta N16.c8
 try delta N16.c9
 try delta N16.c10
 try delta N16.c11
 try delta N16.c12
 try delta N16.c13
 try delta N16.c14
 try delta N16.c15
 exact⟨_,rfl⟩
def gdC(all:List Oper)(o:Oper)(run skip:CF γ α):CF γ α:=gdCP.1 loc D m all o run skip
def skD(dst:Option Tmp):Nat:=match dst with|some t=>D|||2^t|none=>D
def skM(dst:Option Tmp):Mp α:=match dst with|some t=>zO t m|none=>m
def Iq(all:List Oper)(o:Oper):CF γ α:=gdC loc D m all o (It P pr rg loc D m k o) (k α id (skM m o.dst) (skD D o.dst))
def Ir(all:List Oper)(o:Oper):CF γ α:=gdC loc D m all o (JJ P pr rg loc D m k o) (k α id (skM m o.dst) (skD D o.dst))
end
section
variable {γ:Type} (P:Program) (pr:vH) (rg:RG γ) (loc:Nat) (nrm:CK γ)
def C2(all:List Oper)(l:List Oper):(β:Type)->Mp β->Nat->CF γ β:=
 @List.rec Oper (λ_=>(β:Type)->Mp β->Nat->CF γ β) (λ_ _ _=>match nrm with|⟨f⟩=>⟨λc _ e s=>f c e s⟩) (λo _ ih=>λα m D=>Ir P pr rg loc D m (λβ _ m D=>ih β m D) all o) l
def Rg(D:Nat)(ops:List Oper):CK γ:=match C2 P pr rg loc nrm ops ops Unit [] D with|⟨f⟩=>⟨λc e s=>tramp (f c () e s)⟩
structure Fs (α:Type) where
 s:S
 r:α
def Src.us{α:Type}(x:Src α):Src (Fs α):=match x with| .c v=> .c v| .g d n f=> .g d n (λfr e=>f fr.r e)| .dead=> .dead
def GS.by{α β:Type}(g:GS α)(p:β->α):GS β:=match g with|⟨f⟩=>⟨λfr=>f (p fr)⟩
end
def keyB(a b:Key):Bool:=jm (Nat.beq a.d.n b.d.n) (jm (Nat.beq a.c.n b.c.n) (jm (Nat.beq a.b.n b.b.n) (Nat.beq a.a.n b.a.n)))
def R7(a b:Bool):Bool:= @Bool.rec (λ_=>Bool) (@Bool.rec (λ_=>Bool) true false b) b a
def Ii(a b:V):Bool:=
 match a,b with
 | .nn k n,.nn k' n'=>jm (keqF k k') (Nat.beq n n')
 | .zz k n,.zz k' n'=>jm (keqF k k') (Nat.beq n n')
 | .bb x,.bb y=>R7 x y
 | .qq s n d,.qq s' n' d'=>jm (R7 s s') (jm (Nat.beq n n') (Nat.beq d d'))
 | .mg n,.mg n'=>Nat.beq n n'
 | .pp k o,.pp k' o'=>jm (keyB k k') (Nat.beq o o')
 | .ee k i o w,.ee k' i' o' w'=>jm (keyB k k') (jm (Nat.beq i i') (jm (Nat.beq o o') (Nat.beq w w')))
 | .sl k lo n c w,.sl k' lo' n' c' w'=>jm (keyB k k') (jm (Nat.beq lo lo') (jm (Nat.beq n n') (jm (Nat.beq c c') (Nat.beq w w'))))
 | .gs k lo n w,.gs k' lo' n' w'=>jm (keyB k k') (jm (Nat.beq lo lo') (jm (Nat.beq n n') (Nat.beq w w')))
 | .mm k,.mm k'=>keyB k k'
 | .uu (.slice none a b),.uu (.slice none a' b')=>jm (Nat.beq a a') (Nat.beq b b')
 | .uu (.pointer none),.uu (.pointer none)=>true
 | .dl,.dl=>true
 | .st l,.st l'=>beqN l l'
 | .lp n i,.lp n' i'=>jm (Nat.beq n n') (Nat.beq i i')
 |_,_=>false
def LR:List V->List V->Bool
 |[],[]=>true
 |a::l,b::r=>jm (Ii a b) (LR l r)
 |_,_=>false
def beqV(a b:V):Bool:=
 match a,b with
 | .ag w l,.ag w' l'=>jm (Nat.beq w w') (LR l l')
 |a,b=>Ii a b
structure LD (α:Type) where
 i:Nat
 sk:Bool
 f:α->qM->KR
 v:α->V
def LD.by{α β:Type}(d:LD α)(p:β->α):LD β:=match d with|⟨i,sk,f,v⟩=>⟨i,sk,λfr=>f (p fr),λfr=>v (p fr)⟩
def agF(r:KR)(v:V)(z:RO):RO:= @Bool.rec (λ_=>RO) (.no [101]) z (beqV r.res v)
structure ZL (α:Type) where
 f:α->List Key
structure BL (α:Type) where
 f:α->S->RO->RO
def zGet{α:Type}(hs:List (Option (GS α))):List Nat->Option (ZL α)
 |[]=>some ⟨λ_=>[]⟩
 |u::us=>match(hs[u]?).join,zGet hs us with
  |some ⟨g⟩,some ⟨l⟩=>some ⟨λfr=>(g fr).nx::l fr⟩
  |_,_=>none
def IB{α:Type}(i:Nat):List (LD α)->Option (LD α)
 |[]=>none
 |d::r=>bif Nat.beq d.i i then some d else IB i r
def chkL{α:Type}(n:Nat)(hs:List (Option (GS α)))(ld:List (LD α)):List (Nat×Nat)->Option (BL α)
 |[]=>some ⟨λ_ _ z=>z⟩
 |q::r=>match IB q.1 ld,(hs[q.2]?).join,chkL n hs ld r with
  |some ⟨_,sk,f,v⟩,some ⟨g⟩,some ⟨b⟩=>bif sk then some ⟨b⟩else(bif Nat.beq (q.2+1) n then
    some ⟨λfr s z=>agF (f fr (g fr).m) (v fr) (agF (f fr s.m) (v fr) (b fr s z))⟩
   else(match(hs[q.2+1]?).join with
    |some ⟨g'⟩=>some ⟨λfr s z=>agF (f fr (g fr).m) (v fr) (agF (f fr (g' fr).m) (v fr) (b fr s z))⟩
    |none=>none))
  |_,_,_=>none
def Yo(s:S)(z:List Key)(s2:S):S:=⟨reK s.m s2.m z,s2.nx,s2.dn,s2.sc⟩
section
variable {γ:Type} (P:Program) (pr:vH) (rg:RG γ) (loc:Nat) (nrm:CK γ)
abbrev CN(γ:Type):=(β:Type)->Mp β->Nat->List (Option (GS β))->List (LD β)->CF γ β
def Y4(P:Program)(all:List Oper)(M:List Nat)(i:Nat):Bool:=
 (ldP P all M).any (λq=>Nat.beq q.2 i||Nat.beq (q.2+1) i)||(List.range all.length).any λj=>(unz P all M j).any λu=>Nat.beq u i
structure R2 (α:Type) where
 a:α->Env16->V
 b:α->Env16->V
 f:V->V->qM->KR
def rdC{α:Type}(m1:Mp α)(D:Nat)(op:Op):Option (R2 α):=
 match op with
 | .load t x=>(match gv loc D m1 x with|some ⟨g⟩=>some ⟨g,λ_ _=> .bb true,λa _ m=>jY P m t a⟩|none=>none)
 | .lookup t x y cm=>(match gv loc D m1 x,gv loc D m1 y with|some ⟨gx⟩,some ⟨gy⟩=>some ⟨gx,gy,λa b m=>vn P m t cm a b⟩|_,_=>none)
 |_=>none
def isRd(op:Op):Bool:=match op with| .load .. =>true| .lookup .. =>true|_=>false
def MX (all : List Oper) (i : Nat) (o : Oper) (rest : CN γ) {α : Type} (m1 : Mp α) (D : Nat) (hs1 : List (Option (GS α))) (ld1 : List (LD α)) (us : List Nat) : CF γ α :=
 match rdC P loc m1 D o.op, zGet hs1 us with
 | some ⟨ga, gb, f⟩, some ⟨zg⟩ => gdC loc D m1 all o
   (match finV loc D (upM (upM (upM m1))) (λβ pr mβ Dβ => rest β mβ Dβ (hs1.map λh => h.map λh => h.by λx => (pr x).r.r.r) (⟨i, false, λfr m => f (pr fr).r.r.v (pr fr).r.v m, λfr => (pr fr).v⟩ :: ld1.map λh => h.by λx => (pr x).r.r.r)) o.dst ⟨λfr _ _ K => K fr.v⟩ with
    | ⟨k⟩ => ⟨λc fr e s => qF (ga fr e) λa => qF (gb fr e) λb => qF (f a b (rmK s.m (zg fr))).res λv => k c ⟨v, ⟨b, ⟨a, fr⟩⟩⟩ e s⟩)
   (rest α (skM m1 o.dst) (skD D o.dst) hs1 (⟨i, true, λ_ _ => .bad, λ_ => .und⟩ :: ld1))
 | _, _ => badC
def B4(all:List Oper)(M:List Nat)(i:Nat)(o:Oper)(rest:CN γ){α:Type}(m1:Mp α)(D:Nat)(hs1:List (Option (GS α)))(ld1:List (LD α)):CF γ α:=
 bif isRd o.op then(match unz P all M i,(ldP P all M).any (λq=>Nat.beq q.1 i)with
  |[],false=>Iq P pr rg loc D m1 (λβ pr mβ Dβ=>rest β mβ Dβ (hs1.map λh=>h.map λh=>h.by pr) (ld1.map λh=>h.by pr)) all o
  |us,_=>MX P loc all i o rest m1 D hs1 ld1 us)
 else(match unz P all M i with
  |[]=>Iq P pr rg loc D m1 (λβ pr mβ Dβ=>rest β mβ Dβ (hs1.map λh=>h.map λh=>h.by pr) (ld1.map λh=>h.by pr)) all o
  |us=>(match LU P pr rg loc D m1 o.op,zGet hs1 us with
   |some ⟨h⟩,some ⟨zg⟩=>gdC loc D m1 all o (finO loc D m1 (λβ pr mβ Dβ=>rest β mβ Dβ (hs1.map λh=>h.map λh=>h.by pr) (ld1.map λh=>h.by pr)) o.dst
     ⟨λc fr e s K=>(λz=>h c fr e ⟨rmK s.m z,s.nx,s.dn,s.sc⟩ λv s2=>K v (Yo s z s2)) (zg fr)⟩)
    (rest α (skM m1 o.dst) (skD D o.dst) hs1 ld1)
   |_,_=>badC))
def Gn(all:List Oper)(M:List Nat)(i:Nat)(o:Oper)(rest:CN γ){α:Type}(m:Mp α)(D:Nat)(hs:List (Option (GS α)))(ld:List (LD α)):CF γ α:=
 bif Y4 P all M i then(match B4 P pr rg loc all M i o rest (m.map λp=>(p.1,p.2.us)) D ((hs.map λh=>h.map λh=>h.by λf=>f.r)++[some ⟨λfr=>fr.s⟩]) (ld.map λh=>h.by λf=>f.r)with
  |⟨f⟩=>⟨λc fr e s=>f c ⟨s,fr⟩ e s⟩)
 else B4 P pr rg loc all M i o rest m D (hs++[none]) ld
def DD(all:List Oper)(M:List Nat)(l:List Oper):Nat->CN γ:=
 @List.rec Oper (λ_=>Nat->CN γ)
  (λ_ _ _ _ hs ld=>match chkL all.length hs ld (ldP P all M),nrm with|some ⟨b⟩,⟨f⟩=>⟨λc fr e s=>b fr s (f c e s)⟩|none,_=>badC)
  (λo _ ih=>λi β m D hs ld=>Gn P pr rg loc all M i o (ih (i+1)) m D hs ld) l
def Ra(D:Nat)(ops:List Oper):CK γ:=
 (λM=>(match DD P pr rg loc nrm ops M ops 0 Unit [] D [] []with|⟨f⟩=>(⟨λc e s=>tramp (f c () e s)⟩:CK γ))) (masks 0 ops [])
end
def badK{γ:Type}:CK γ:=⟨λ_ _ _=> .no [99]⟩
abbrev Exs(γ:Type):=List (Nat×CK γ)
def wB{γ:Type}(i:Nat):Exs γ->CK γ
 |[]=>badK
 |p::r=>bif Nat.beq p.1 i then p.2 else wB i r
def CK.lift{γ:Type}(x:CK γ):CK (LC γ):=match x with|⟨f⟩=>⟨λc e s=>f c.up e s⟩
def RG.lift{γ:Type}(x:RG γ):RG (LC γ):=match x with|⟨f⟩=>⟨λc=>f c.up⟩
abbrev Den:=(γ:Type)->RG γ->Nat->CK γ->Exs γ->CK γ->CK γ
def wW(f:(Env16->S->RO)->Env16->S->RO)(n:Nat):Env16->S->RO:= @Nat.rec (λ_=>Env16->S->RO) (λ_ _=> .no [7]) (λ_ ih e s=>f ih e s) n
section
variable (P:Program) (pr:vH) (loc:Nat)
def labC(c:Code):Option Nat:=
 @Code.rec (λ_=>Option Nat) none (λ_ _ _=>none) (λ_ _ a b=>match a with|some l=>some l|none=>b) (λ_ _ _ _ _=>none) (λ_ _ _=>none) (λ_ _=>none)
  (λ_ _ _ _ _ _=>none) (λ_=>none) (λ_ _=>none) (λl=>some l) (λ_=>none) none (λ_=>none) c
def noG{γ:Type}:Exs γ->Bool
 |[]=>true
 |p::r=>Nat.blt p.1 1048576&&noG r
def exG{γ:Type}(l:Nat)(ex:Exs γ):Exs (LC γ):=(1048576+l,⟨λc e s=>tramp (c.ih e s)⟩)::ex.map λp=>(p.1,p.2.lift)
def scK{γ:Type}(b:Bool)(x y:CK (LC γ)):CK γ:=
 match b,x,y with
 |true,⟨f0⟩,⟨f1⟩=>⟨λc e s=>f0 ⟨wW (λih e s=>f1 ⟨ih,c⟩ e s) 1000000,c⟩ e s⟩
 |false,_,_=>badK
structure DenS where
 d:Den
 o:Nat->Nat
 f:Nat->Option Den
def fden (c : Code) : DenS :=
 @Code.rec (λ_ => DenS)
  ⟨λ_ _ _ nrm _ _ => nrm, λD => D, λ_ => none⟩
  (λ_ ops dr => ⟨λγ rg D nrm _ _ => @Bool.rec (λ_ => CK γ) (Rg P pr rg loc nrm D ops.toList) (Ra P pr rg loc nrm D ops.toList) dr, λD => ops.toList.foldl (λD o => skD D o.dst) D, λ_ => none⟩)
  (λ_ _ ha hb => ⟨λγ rg D nrm ex ret => ha.d γ rg D (hb.d γ rg (ha.o D) nrm ex ret) ex ret, λD => hb.o (ha.o D), λl => match ha.f l with
   | some g => some (λγ rg D nrm ex ret => g γ rg D (hb.d γ rg D nrm ex ret) ex ret)
   | none => hb.f l⟩)
  (λx _ _ ha hb => ⟨λγ rg D nrm ex ret => match gv (α := Unit) loc D [] x, ha.d γ rg D nrm ex ret, hb.d γ rg D nrm ex ret with
   | some ⟨g⟩, ⟨fa⟩, ⟨fb⟩ => ⟨λc e s => qB (g () e) λb => @Bool.rec (λ_ => RO) (fb c e s) (fa c e s) b⟩
   | none, _, _ => badK, λD => D, λ_ => none⟩)
  (λid _ h => ⟨λγ rg D nrm ex ret => h.d γ rg D nrm ((id, nrm) :: ex) ret, λD => D, λ_ => none⟩)
  (λ_ h => ⟨λγ rg D nrm ex ret => match h.d (LC γ) rg.lift D ⟨λc e s => tramp (c.ih e s)⟩ (ex.map λp => (p.1, p.2.lift)) ret.lift with
   | ⟨f⟩ => ⟨λc e s => wW (λih e s => f ⟨ih, c⟩ e s) 1000000 e s⟩, λD => D, λ_ => none⟩)
  (λ_ _ _ _ _ _ => ⟨λ_ _ _ _ _ _ => badK, λD => D, λ_ => none⟩)
  (λid => ⟨λ_ _ _ _ ex _ => wB id ex, λD => D, λ_ => none⟩)
  (λc h => ⟨λγ rg D nrm ex ret => match labC c with
   | some l => (match h.f l with
    | some g => scK (noG ex) (h.d (LC γ) rg.lift D nrm.lift (exG l ex) ret.lift) (g (LC γ) rg.lift D nrm.lift (exG l ex) ret.lift)
    | none => badK)
   | none => badK, λD => D, λ_ => none⟩)
  (λl' => ⟨λ_ _ _ nrm _ _ => nrm, λD => D, λl => bif Nat.beq l' l then some (λ_ _ _ nrm _ _ => nrm) else none⟩)
  (λl => ⟨λ_ _ _ _ ex _ => wB (1048576 + l) ex, λD => D, λ_ => none⟩)
  ⟨λ_ _ _ _ _ ret => ret, λD => D, λ_ => none⟩
  (λ_ => ⟨λ_ _ _ _ _ _ => badK, λD => D, λ_ => none⟩) c
structure RV where
 f:Env16->S->(V->RO)->RO
def resC(r:ResultVar):Option RV:=
 match r with
 | .tmp t=>(match gv (α:=Unit) loc 0 [] (.tmp t)with|some ⟨g⟩=>some ⟨λe s K=>qK (g () e) K⟩|none=>none)
 | .cell a t=>(match gv (α:=Unit) loc 0 [] (.tmp a),qQ P t with|some ⟨g⟩,some (gg,sz)=>bif gg||Nat.beq sz 1 then some ⟨λe s K=>BT gg sz s.m (g () e) λv=>qK v K⟩else none|_,_=>none)
structure RL where
 f:Env16->S->(List V->RO)->RO
def resL:List ResultVar->Option RL
 |[]=>some ⟨λ_ _ K=>K []⟩
 |r::l=>match resC P loc r,resL l with
  |some ⟨g⟩,some ⟨h⟩=>some ⟨λe s K=>g e s λv=>h e s λl=>K (v::l)⟩
  |_,_=>none
def retC{γ:Type}(l:List ResultVar):CK γ:=
 match l with
 |[r]=>(match resC P loc r with|some ⟨g⟩=>⟨λ_ e s=>g e s λv=> .ok v s⟩|none=>badK)
 |l=>(match resL P loc l with|some ⟨g⟩=>⟨λ_ e s=>g e s λl=> .ok (.tu l) s⟩|none=>badK)
structure FnC where
 g:Rc->Row->Nat->S->RO
def qH:Row:=⟨.und,.und,.und,.und,.und,.und,.und,.und,.und,.und,.und,.und,.und,.und,.und,.und⟩
def hiU:N16 (N16 V):=⟨qH,qH,qH,qH,qH,qH,qH,qH,qH,qH,qH,qH,qH,qH,qH,qH⟩
def rowL(w:Row):Nat->List V:=λn=>[w.c0,w.c1,w.c2,w.c3,w.c4,w.c5,w.c6,w.c7,w.c8,w.c9,w.c10,w.c11,w.c12,w.c13,w.c14,w.c15].take n
end
def LQ:RG Rc:=⟨λc f w n s=>c.call f w n s⟩
def fnC(P:Program)(pr:vH)(tb:FuncId->Nat)(f:FuncId):FnC:=
 match pr f with
 |some g=>⟨λ_ w n s=> @Bool.rec (λ_=>RO) (.no [17]) (roK (g (rowL w n) s) λv s=>qF v λv=> .ok v s) (Nat.ble n 16)⟩
 |none=>(match P.funcs[f]? with
  |some fn=>(match fn.body with
   |some c=>bif qV fn.ntmps c&&BF fn then(match retC P (tb f) fn.results.toList with
    |ret=>(match(fden P pr (tb f) c).d Rc LQ (2^fn.params.size-1) ret [] ret with
     |⟨run⟩=>⟨λrc w n s=> @Bool.rec (λ_=>RO) (.no [17]) (run rc ⟨⟨w,qH,qH,qH,qH,qH,qH,qH,qH,qH,qH,qH,qH,qH,qH,qH⟩,hiU⟩ s) (jm (Nat.ble n (Nat.min 16 fn.ntmps)) (Nat.ble fn.params.size n))⟩))else⟨λ_ _ _ _=> .no [100]⟩
   |none=>⟨λ_ _ _ _=> .no [100]⟩)
  |none=>⟨λ_ _ _ _=> .no [100]⟩)
def CT(P:Program)(pr:vH)(tb:FuncId->Nat)(n:Nat):Rc:= @Nat.rec (λ_=>Rc) ⟨λ_ _ _ _=> .no [14]⟩ (λ_ ih=>⟨λf w n s=>(fnC P pr tb f).g ih w n s⟩) n
end
noncomputable section
section
variable {D:List Int} {P:Program}
theorem Gs{E:Env}{σ:FS}{a:Act}{w:World}{H:Heap}{β:Bm}{e:Env16}{m:qM}(h:RepF E σ a w H β){x:Operand}(hx:qa e x≠ .und)(hσ: ∀t,x= .tmp t->σ (2*t)=qt D e m (2*t)):
  (qc D (qa e x)).sat β H (a.eval x):=by
 cases x with
 |tmp t=>
  have h1:=hσ t rfl;rw[qL]at h1;have hne:slot e t≠ .und:=hx
  have hav: ∃av,(slot e t).av D=some av:=by
   rcases V.av_or (D:=D) (slot e t)with e1|⟨l,e1⟩|e1
   .exact absurd e1 hne
   .rw[e1];exact⟨_,rfl⟩
   .exact⟨_,e1⟩
  obtain⟨av,hav⟩:=hav;rw[hav]at h1;obtain⟨v,hv,hs⟩:=h.slot t av h1;have:a.eval (.tmp t)=v:=by simp[Act.eval,Array.getD_eq_getD_getElem?,hv]
  rw[this];show(qc D (slot e t)).sat β H v;rw[qc,hav];exact hs
 |const v=>
  have hne:jP v≠ .und:=hx;obtain⟨h1,h2⟩:=ws (D:=D) hne β H;show(qc D (jP v)).sat β H v;rw[zA h1];exact h2
 |func f=>exact⟨rfl,rfl⟩
 |global g=>exact absurd rfl hx
theorem Fl{e:Env16}(h: ∀t,(slot e t).ok)(x:Operand):(qa e x).ok:=by
 cases x with
 |tmp t=>exact h t
 |const v=>
  show(jP v).ok;by_cases hne:jP v= .und
  .rw[hne];trivial
  .exact V.okC_ok (ws (D:=[]) hne (λ_=>none) (λ_=>none)).1
 |func f=>exact rfl
 |global g=>trivial
theorem KA{α β:Type}{f:α->β}: ∀{l:List α}{p:α×β},p∈List.zip l (l.map f)->p.1∈l/\p.2=f p.1
 |[],p,h=>by simp at h
 |a::l,p,h=>by
  simp only[q5b,List.zip_cons_cons]at h;rcases q5d.1 h with rfl|h
  .exact⟨q5f,rfl⟩
  .obtain⟨h1,h2⟩:=KA h;exact⟨q5e _ h1,h2⟩
theorem Bp{t:Nat}: ∀{l:List Operand},Operand.tmp t∈l->2*t∈jh l
 |[],h=>by simp at h
 |x::l,h=>by
  rcases q5d.1 h with e|h
  .subst e;simp[jh]
  .have:=Bp h
   cases x<;>simp[jh,this]
def apM(D:List Int)(m:qM)(d:Key):KR->qM
 | .wr _ _ k b=>mset m k (some b)
 | .nw _ _ b=>mset m d (some b)
 | .mv _ _ k b=>mset (mset m k none) d (some b)
 |_=>m
theorem lwM{m:qM}{d:Key}{r:KR}(hr: ∀v ks k b,r= .mv v ks k b->k≠d)(n:Nat):
  (match look (lw D d r) n with|some x=>x.map XV.bl|none=>(mblk m n).map λb=>XV.bl (b.blk D))=(mblk (apM D m d r) n).map λb=> .bl (b.blk D):=by
 cases r with
 |bad=>rfl
 |val v ks=>rfl
 |wr v ks k b=>
  simp only[lw,apM,look,HG];by_cases e:n=k.num
  .subst e;simp
  .rw[if_neg e,js (λh=>e h.symm)];rfl
 |nw v ks b=>
  simp only[lw,apM,look,HG];by_cases e:n=d.num
  .subst e;simp
  .rw[if_neg e,js (λh=>e h.symm)];rfl
 |mv v ks k b=>
  have hkd:=hr v ks k b rfl;simp only[lw,apM,look,HG];by_cases e:n=d.num
  .subst e
   have:k.num≠d.num:=λh=>hkd (Key.num_inj h)
   rw[js this];simp
  .rw[if_neg e]
   by_cases e2:n=k.num
   .subst e2;simp
   .rw[if_neg e2,js (λh=>e2 h.symm),js (λh=>e h.symm)];rfl
theorem I2{e:Env16}{m:qM}{d:Key}{r:KR}{dst:Option Tmp}{v:V}(hv:v≠ .und)(hd: ∀t,dst=some t->t<512)(hr: ∀v ks k b,r= .mv v ks k b->k≠d):
  (qt D e m).upd (Wof dst (qc D v) (lw D d r))=qt D (jd e dst v) (apM D m d r):=by
 have hav:v.av D=some (qc D v):=by
  rcases V.av_or (D:=D) v with e1|⟨l,e1⟩|e1
  .exact absurd e1 hv
  .rw[e1];rfl
  .rw[qc,e1];rfl
 funext ℓ;rcases q5J ℓ with h|h
 .obtain⟨t,rfl⟩: ∃t,ℓ=2*t:=⟨ℓ/2,by omega⟩
  simp only[FS.upd,jU];rw[qL,qL]
  cases dst with
  |none=>simp[jd]
  |some d'=>
   show(match(if some d'=some t then some (some (XV.av (qc D v)))else none)with|some v=>v|none=>_)=((slot (eset e d' v) t).av D).map .av;rw[CJ v (hd d' rfl)];by_cases e1:t=d'
   .subst e1;simp[hav]
   .have e2: ¬(some d':Option Tmp)=some t:=λh=>e1 (Option.some.inj h).symm
    rw[if_neg e2,if_neg e1]
 .obtain⟨k,rfl⟩: ∃k,ℓ=2*k+1:=⟨ℓ/2,by omega⟩
  simp only[FS.upd,vd];rw[qj,qj,<-lwM (D:=D) hr k];cases look (lw D d r) k<;>rfl
theorem jT{e:Env16}{m:qM}{k:Key}{b:KB}(h:mget m k=some b):qt D e m (2*k.num+1)=some (.bl (b.blk D)):=by
 rw[qj,vt,h];rfl
def gslK(all:List Oper)(g:Option (Nat×Bool)):List Nat:=
 match g with
 |none=>[]
 |some (j,_)=>match(all[j]?).bind (·.dst)with
  |some t=>[2*t]
  |none=>[]
theorem Gb{E:Env}{σ:FS}{a:Act}{w:World}{H:Heap}{β:Bm}{e:Env16}{m:qM}{ops:Array Oper}{o:Oper}{g:Bool}(h:RepF E σ a w H β)
  (hg:jg ops.toList e o.guard=some g)(hσ: ∀ℓ∈gslK ops.toList o.guard,σ ℓ=qt D e m ℓ):Region.wanted o (yielded ops a.tmps)=g:=by
 unfold jg at hg;unfold Region.wanted;split at hg
 .rename_i e1
  rw[e1];simp only[q61]at hg;exact hg
 .rename_i j w e1
  rw[e1]at hσ⊢;simp only at hσ⊢
  have hy:yielded ops a.tmps j=(match((ops.toList[j]?).bind (·.dst)).bind (a.tmps[·]?)with|some (.bool b)=>some b|_=>none):=by
   unfold yielded;simp only[Array.getElem?_toList];rfl
  rw[hy];split at hg
  .rename_i t ht
   rw[ht];simp only[Option.bind_some];have h1:σ (2*t)=qt D e m (2*t):=hσ _ (by unfold gslK;simp only[ht];exact q5f);rw[qL]at h1;split at hg
   .rename_i b hb
    rw[hb]at h1;obtain⟨v,hv,hs⟩:=h.slot t _ h1;obtain⟨rfl,_⟩:=hs;rw[hv];cases b<;>cases w<;>simp at hg⊢ <;>exact hg
   .rename_i hb
    rw[hb]at h1;obtain⟨v,hv,arr,rfl,hs⟩:=h.slot t _ h1;rw[hv];simp only[q61]at hg;subst hg;rfl
   .cases hg
  .rename_i ht
   rw[ht];simp only[Option.bind_none];simp only[q61]at hg;subst hg;rfl
theorem L0{E:Env}{ops:Array Oper}{i:Nat}{o:Oper}{e:Env16}{m:qM}{lo hi:Nat}(ho:ops[i]?=some o)(hg:jg ops.toList e o.guard=some false)(hd: ∀t,o.dst=some t->t<E.n):
  GoodK P E ops i ⟨gslK ops.toList o.guard,Wof o.dst (qc D (.tu [])) [],[],[],none⟩ noAl lo hi (qt D e m):=by
 intro σ hs hσ a w H β K Q hrep hdom hK
 have hσ': ∀ℓ∈gslK ops.toList o.guard,σ ℓ=qt D e m ℓ:=λℓ hℓ=>by
  rcases hσ ℓ hℓ with h|⟨x,hx,_⟩
  .exact h
  .exact hx.elim
 have hw:=Gb (D:=D) hrep hg hσ';unfold wpOp;rw[ho];simp only[hw,q4M,if_false];refine hK _ w H β ?_ (λ_ _=>rfl);refine RepF.step (kin:=[]) (Lw:=[]) hrep (v:=undef) (by simpa[kwOf,qu,jk]using Step.refl hrep.hon) (AH _ _) (λk b hb=>by simp at hb) (λp hp=>by simp at hp) (λk hk=>by simp[jk]at hk) (λk hk=>by simp[qu]at hk) hd
theorem q0C{σ:FS}{E:Env}{a:Act}{w:World}{H:Heap}{β:Bm}(h:RepF E σ a w H β)(hs:Str σ){k:Nat}(hk:β k=none){ℓ:Nat}{x:XV}(hx:σ ℓ=some x):x.men k=false:=by
 cases hm:x.men k with
 |false=>rfl
 |true=>
  exfalso;rcases q5J ℓ with h1|h1
  .obtain⟨t,rfl⟩: ∃t,ℓ=2*t:=⟨ℓ/2,by omega⟩
   cases x with
   |av av=>
    obtain⟨v,_,hv⟩:=h.slot t av hx;exact(hs _ _ hx).2 β H v k hv hm hk
   |bl b=>have:=(hs _ _ hx).1;omega
  .obtain⟨q,rfl⟩: ∃q,ℓ=2*q+1:=⟨ℓ/2,by omega⟩
   cases x with
   |av av=>have:=(hs _ _ hx).1;omega
   |bl b=>exact(hs _ _ hx).2.1 β w H q k (h.blk q b hx) hm hk
theorem Nq{kin:List (Nat×Blk)}{n:Nat}:(look kin n).isSome=true↔n∈kin.map (·.1):=by
 induction kin with
 |nil=>simp[look]
 |cons p r ih=>
  obtain⟨q,b⟩:=p;simp only[look,q5b,q5d];by_cases e:q=n
  .subst e;simp
  .rw[js e];simp only[cond_false,ih]
   constructor
   .exact .inr
   .rintro(h|h)
    .exact absurd h.symm e
    .exact h
theorem Nc {E : Env} {ops : Array Oper} {i : Nat} {o : Oper} {e : Env16} {m : qM} {d : Key} {r : KR} {al : Nat -> XV -> Prop} {hi : Nat} (ho : ops[i]? = some o) (hg : jg ops.toList e o.guard = some true) (hd : ∀ t, o.dst = some t -> t < E.n)
  (hal : ∀ ℓ x, al ℓ x -> ℓ % 2 = 1) (hne : ∀ x ∈ o.op.operands.toList, qa e x ≠ .und) (hks : ∀ p ∈ r.ks, mget m p.1 = some p.2) (hgood : r.good r.ks) (hfr : mget m d = none)
  (hop : ∀ kin : List (Nat × Blk), kin.map (·.1) = r.ks.map (·.1.num) -> (∀ p ∈ kin, qt D e m (2 * p.1 + 1) = some (.bl p.2) \/ al (2 * p.1 + 1) (XV.bl p.2)) ->
   OpK P o.op o.type (List.zip o.op.operands.toList (o.op.operands.toList.map λx => qc D (qa e x))) kin (qc D r.res) (lw D d r) d.num)
  (hhi : (∃ v ks b, r = .nw v ks b) \/ (∃ v ks k b, r = .mv v ks k b) -> d.num < hi) (hKs : ∀ k ∈ E.Ks, k < d.num) :
  GoodK P E ops i ⟨gslK ops.toList o.guard ++ jh o.op.operands.toList ++ r.ks.map (λp => 2 * p.1.num + 1), Wof o.dst (qc D r.res) (lw D d r), [], [], none⟩ al d.num hi (qt D e m) := by
 intro σ hs hσ a w H β K Q hrep hdom hK
 have hsl : ∀ t, (2 * t ∈ gslK ops.toList o.guard \/ 2 * t ∈ jh o.op.operands.toList) -> σ (2 * t) = qt D e m (2 * t) := λt ht => by
  rcases hσ (2 * t) (by simp only [q5c]; exact .inl ht) with h | ⟨x, hx, _⟩
  .exact h
  .have := hal _ _ hx; omega
 have hgs : ∀ ℓ ∈ gslK ops.toList o.guard, σ ℓ = qt D e m ℓ := λℓ hℓ => by
  have h2 : ∃ t, ℓ = 2 * t := by
   unfold gslK at hℓ;split at hℓ
   .simp at hℓ
   .split at hℓ
    .simp at hℓ; exact ⟨_, hℓ⟩
    .simp at hℓ
  obtain ⟨t, rfl⟩ := h2;exact hsl t (.inl hℓ)
 have hw := Gb (D := D) hrep hg hgs;unfold wpOp;rw [ho];simp only [hw, if_true];refine .inl ?_
 -- the blocks that are there
 have hpick : ∀ ks : List (Key × KB), (∀ p ∈ ks, p ∈ r.ks) -> ∃ kin : List (Nat × Blk), kin.map (·.1) = ks.map (·.1.num) /\ ∀ p ∈ kin, σ (2 * p.1 + 1) = some (.bl p.2) /\ (qt D e m (2 * p.1 + 1) = some (.bl p.2) \/ al (2 * p.1 + 1) (XV.bl p.2)) := by
  intro ks
  induction ks with
  | nil => intro _; exact ⟨[], rfl, λp hp => by simp at hp⟩
  | cons q ks ih =>
   intro hsub;obtain ⟨kin, h1, h2⟩ := ih λp hp => hsub p (q5e _ hp)
   have hq := hsub q q5f;have hb := jT (D := D) (e := e) (hks q hq);rcases hσ (2 * q.1.num + 1) (by simp only [q5c, List.mem_map]; exact .inr ⟨q, hq, rfl⟩) with h | ⟨x, hx, h⟩
   .refine ⟨(q.1.num, q.2.blk D) :: kin, by simp [h1], λp hp => ?_⟩
    rcases q5d.1 hp with rfl | hp
    .exact ⟨by rw [h, hb], .inl hb⟩
    .exact h2 p hp
   .have hty := hs _ _ h
    cases x with
    | av x => have := hty.1; omega
    | bl x =>
     refine ⟨(q.1.num, x) :: kin, by simp [h1], λp hp => ?_⟩;rcases q5d.1 hp with rfl | hp
     .exact ⟨h, .inr hx⟩
     .exact h2 p hp
 obtain ⟨kin, hk1, hk2⟩ := hpick r.ks λp hp => hp
 have hdn : d.num ∉ kin.map (·.1) := by
  rw [hk1];intro h;obtain ⟨p, hp, e1⟩ := List.mem_map.1 h;have := hks p hp;rw [Key.num_inj e1, hfr] at this; cases this
 have hlookd : look kin d.num = none := by
  cases hq : look kin d.num with
  | none => rfl
  | some x => exact absurd (Nq.1 (by rw [hq]; rfl)) hdn
 have hkey : ∀ k b', (k, b') ∈ r.ks -> (look kin k.num).isSome = true := λk b' hkb => Nq.2 (by rw [hk1]; exact List.mem_map.2 ⟨_, hkb, rfl⟩)
 have hkn : ∀ k ∈ qu kin (lw D d r), k = d.num /\ ((∃ v ks b, r = .nw v ks b) \/ (∃ v ks k b, r = .mv v ks k b)) := by
  intro k hk;simp only [qu, q5g, List.mem_map] at hk;obtain ⟨⟨p, ⟨hp, hps⟩, rfl⟩, hn⟩ := hk
  cases r with
  | bad => simp [lw] at hp
  | val v ks => simp [lw] at hp
  | wr v ks k b =>
   simp [lw] at hp;subst hp;obtain ⟨_, b', hb'⟩ := hgood;have := hkey k b' hb';simp only [Option.isNone_iff_eq_none] at hn;rw [hn] at this; cases this
  | nw v ks b =>
   simp [lw] at hp;subst hp;exact ⟨rfl, .inl ⟨_, _, _, rfl⟩⟩
  | mv v ks k b =>
   simp [lw] at hp;rcases hp with rfl | rfl
   .simp at hps
   .exact ⟨rfl, .inr ⟨_, _, _, _, rfl⟩⟩
 have hdnone : qu kin (lw D d r) ≠ [] -> β d.num = none := λh => by
  obtain ⟨k, hk⟩ := List.exists_mem_of_ne_nil _ h;obtain ⟨e1, e2⟩ := hkn k hk;exact hdom d.num (q5B _) (hhi e2)
 refine hop kin hk1 (λp hp => (hk2 p hp).2) o.dst o.pos o.after o.guard a w H β K Q ?_ ?_ ?_ hrep.hon hdnone ?_
 .intro p hp
  obtain ⟨h1, h2⟩ := KA hp;rw [h2];refine Gs hrep (hne _ h1) λt ht => hsl t (.inr ?_)
  exact Bp (by rw [<- ht]; exact h1)
 .intro p hp
  exact ⟨hrep.blk _ _ (hk2 p hp).1, λb c hb => ⟨(hrep.own _ _ b c (hk2 p hp).1 hb).1, (hrep.own _ _ b c (hk2 p hp).1 hb).2.1⟩⟩
 .intro p hp p' hp' hne' b c c' hb
  exact hrep.inj _ _ _ _ b c c' (hk2 p hp).1 (hk2 p' hp').1 hne' hb
 .intro v w' H' β' hst hR hL
  refine hK _ w' H' β' ?_ ?_
  .refine RepF.step hrep hst hR hL (λp hp => (hk2 p hp).1) ?_ ?_ hd
   .intro k hk
    simp only [jk, List.mem_map, q5g] at hk;obtain ⟨p, ⟨hp, hps⟩, rfl⟩ := hk
    cases r with
    | bad => simp [lw] at hp
    | val v ks => simp [lw] at hp
    | wr v ks k b => simp [lw] at hp; subst hp; simp at hps
    | nw v ks b => simp [lw] at hp; subst hp; simp at hps
    | mv v ks k b =>
     simp [lw] at hp;rcases hp with rfl | rfl
     .obtain ⟨_, b', hb'⟩ := hgood
      exact ⟨hkey k b' hb', by simp [lw, look]⟩
     .simp at hps
   .intro k hk
    obtain ⟨e1, e2⟩ := hkn k hk;subst e1;refine ⟨λh => ?_, λℓ x hx _ => q0C hrep hs (hdom _ (q5B _) (hhi e2)) hx⟩;have := hKs _ h; omega
  .intro k hk
   refine hst.beta k λh => ?_
   obtain ⟨e1, e2⟩ := hkn k h;subst e1;rcases hk with hk | hk
   .omega
   .have := hhi e2; omega
end
end
noncomputable section
section
variable {D:List Int} {P:Program} {m:qM} {d:Key} {ty:TypeId}
theorem Tw{w:World}{b off s j n c:Nat}{T:TypeId}{fz:Nat×Nat}{arr:Array Value}(hw:w.heap[b]?=some (.cells arr T fz))(hl:off+j*s<=arr.size):
  (Builtin.firstCells s j (.slice (some ⟨b,off,none⟩) n c)).run P w= .ok ((arr.toList.drop off).take (j*s)).toArray w:=by
 have hV:((arr.toList.drop off).take (j*s)).length=j*s:=by simp;omega
 have:=run_loadCells_list (P:=P) w ⟨b,off,none⟩ ((arr.toList.drop off).take (j*s)) (by
  intro i v hv;rw[ji,B3 hw]
  have hi:i<j*s:=by
   rcases q5F i (j*s)with h'|h'
   .exact h'
   .rw[q52 (by omega)]at hv;cases hv
  rw[q53 hi,q50]at hv
  simpa using hv)
 rw[hV]at this;simp only[Builtin.firstCells,this]
theorem bleF{a b:Nat}(h:Nat.ble a b=false): ¬a<=b:=λh'=>by rw[Nat.ble_eq_true_of_le h']at h;cases h
theorem HW{es n:Nat}{q:Sq V}{kb:KB}{k:Nat}{β:Bm}{w:World}{H:Heap}(hkb:kb= .arr es n q\/kb= .gro es n q)(h:(kb.blk D).rep β w H k):
  ∃b c arr T,β k=some (b,c)/\w.heap[b]?=some (.cells arr T (0,0))/\(flat D (Sq.toL .und q 0 n)).length<=arr.size/\Sats β H (flat D (Sq.toL .und q 0 n)) (arr.toList.take (flat D (Sq.toL .und q 0 n)).length)\/
   (β k=none/\flat D (Sq.toL .und q 0 n)=[]):=by
 have hr: ∀cs:List Atom,(Blk.rigid cs).rep β w H k-> ∃b c arr T,β k=some (b,c)/\w.heap[b]?=some (.cells arr T (0,0))/\cs.length<=arr.size/\Sats β H cs (arr.toList.take cs.length):=by
  rintro cs ⟨b,c,arr,T,h1,h2,h3⟩
  have:=Sats.length h3;exact⟨b,c,arr,T,h1,h2,by simp at this;omega,by rw[this,q5n];exact h3⟩
 rcases hkb with rfl|rfl
 .obtain⟨b,c,arr,T,h1,h2,h3,h4⟩:=hr _ h
  exact⟨b,c,arr,T,.inl ⟨h1,h2,h3,h4⟩⟩
 .have h:(groB es (flat D (Sq.toL .und q 0 n))).rep β w H k:=h
  rcases JN es (flat D (Sq.toL .und q 0 n))with e|e<;>rw[e]at h
  .obtain⟨b,c,arr,T,h1,h2,h3,h4⟩:=hr _ h
   exact⟨b,c,arr,T,.inl ⟨h1,h2,h3,h4⟩⟩
  .rcases h with⟨h1,h2⟩|⟨b,c,arr,T,h1,h2,_,h3,h4⟩
   .exact⟨0,0,#[],0,.inr ⟨h1,h2⟩⟩
   .exact⟨b,c,arr,T,.inl ⟨h1,h2,h3,h4⟩⟩
theorem BH{s:Nat}{v:V}{xs:List V}{ks:List (Key×KB)}(h:srcL m s v=some (xs,ks))(hm: ∀k b,mget m k=some b->b.ok):
  v.on=true/\okE s xs/\(∀p∈ks,mget m p.1=some p.2)/\ ∀(w:World)(H:Heap)(β:Bm)(yv:Value),(qc D v).sat β H yv->(∀p∈vh D ks,p.2.rep β w H p.1)->
   (Builtin.lenOf yv).run P w= .ok xs.length w/\ ∀j,j<=xs.length-> ∃arrx:Array Value,Sats β H (flat D (xs.take j)) arrx.toList/\arrx.size=j*s/\ ∀w':World,w'.heap=w.heap->(Builtin.firstCells s j yv).run P w'= .ok arrx w':=by
 have main: ∀{k:Key}{kb:KB}{es N lo n:Nat}{q:Sq V},kb= .arr es N q\/kb= .gro es N q->mget m k=some kb->lo+n<=N->es=s->okE s (Sq.toL .und q lo n)/\
   ∀(w:World)(H:Heap)(β:Bm)(b c c2:Nat),β k.num=some (b,c)->(kb.blk D).rep β w H k.num->
    (Builtin.lenOf (.slice (some ⟨b,lo*s,none⟩) n c2)).run P w= .ok (Sq.toL .und q lo n).length w/\ ∀j,j<=(Sq.toL .und q lo n).length-> ∃arrx:Array Value,Sats β H (flat D ((Sq.toL .und q lo n).take j)) arrx.toList/\arrx.size=j*s/\ ∀w':World,w'.heap=w.heap->(Builtin.firstCells s j (.slice (some ⟨b,lo*s,none⟩) n c2)).run P w'= .ok arrx w':=by
  intro k kb es N lo n q hkb hb hln hes;subst hes;have hbo:=hm k kb hb;have hL:okE es (Sq.toL .und q 0 N):=by rcases hkb with rfl|rfl<;>exact hbo.2
  have hcut:((Sq.toL .und q 0 N).drop lo).take n=Sq.toL .und q lo n:=Ov _ _ hln;refine⟨by rw[<-hcut];exact At (HO hL _) _,λw H β b c c2 hβ hrep=>⟨by simp[Builtin.lenOf,Sq.toL_len],λj hj=>?_⟩⟩;rw[Sq.toL_len]at hj;have hlen:=jK (D:=D) hL;rw[Sq.toL_len]at hlen;obtain⟨b',c',arr,T,h|h⟩:=HW hkb hrep
  .obtain⟨h1,h2,h3,h4⟩:=h
   rw[hβ]at h1;cases h1
   have hfit:lo*es+j*es<=N*es:=by rw[<-q5s];exact q5O _ (by omega)
   refine⟨((arr.toList.drop (lo*es)).take (j*es)).toArray,?_,by simp;omega,λw' hw'=>Tw (by rw[hw'];exact h2) (by omega)⟩
   have e1:flat D ((Sq.toL .und q lo n).take j)=((flat D (Sq.toL .und q 0 N)).drop (lo*es)).take (j*es):=by
    rw[Fp hL lo (by rw[Sq.toL_len];omega),Fq (HO hL lo) j (by rw[q57,Sq.toL_len];omega),<-hcut,q5q,q5G hj]
   have e2:(arr.toList.drop (lo*es)).take (j*es)=((arr.toList.take (flat D (Sq.toL .und q 0 N)).length).drop (lo*es)).take (j*es):=by
    rw[List.drop_take,q5q,q5G (by omega)]
   rw[e1];show Sats β H _ ((arr.toList.drop (lo*es)).take (j*es));rw[e2];exact(h4.drop _).take _
  .rw[hβ]at h;cases h.1
 unfold srcL at h;split at h
 .cases h
  refine⟨rfl,λx hx=>by simp at hx,λp hp=>by simp at hp,λw H β yv hy _=>?_⟩;obtain⟨rfl,_⟩:=hy;refine⟨by simp[Builtin.lenOf],λj hj=>⟨#[],by simp[flat,Sats],by simp at hj;simp[hj],λw' _=>by simp[Builtin.firstCells]⟩⟩
 .rename_i k lo n c w0
  split at h
  .rename_i es N q hb
   cases hc:Nat.beq w0 es&&Nat.beq es s&&Nat.ble (lo+n) N with
   |false=>rw[hc]at h;cases h
   |true=>
    rw[hc]at h;simp only[q4L]at hc;have c1:=q5w hc.1.1;have c2:=q5w hc.1.2;have c3:lo+n<=N:=by simpa using hc.2
    cases h;obtain⟨m1,m2⟩:=main (.inl rfl) hb c3 c2;refine⟨rfl,m1,λp hp=>by simp at hp;subst hp;exact hb,λw H β yv hy hk=>?_⟩;obtain⟨b,c',hβ,rfl⟩:=hy;rw[c1,c2];exact m2 w H β b c' c hβ (hk (k.num,(KB.arr es N q).blk D) (by simp[vh]))
  .cases h
 .rename_i k lo n w0
  split at h
  .rename_i es N q hb
   cases hc:Nat.beq w0 es&&Nat.beq es s&&Nat.ble (lo+n) N with
   |false=>rw[hc]at h;cases h
   |true=>
    rw[hc]at h;simp only[q4L]at hc;have c1:=q5w hc.1.1;have c2:=q5w hc.1.2;have c3:lo+n<=N:=by simpa using hc.2
    cases h;obtain⟨m1,m2⟩:=main (.inr rfl) hb c3 c2;refine⟨rfl,m1,λp hp=>by simp at hp;subst hp;exact hb,λw H β yv hy hk=>?_⟩;obtain⟨b,c',hβ,hc',rfl⟩:=hy;rw[c1,c2];exact m2 w H β b c' (c'-lo) hβ (hk (k.num,(KB.gro es N q).blk D) (by simp[vh]))
  .cases h
 .cases h
  refine⟨rfl,λx hx=>by simp at hx,λp hp=>by simp at hp,λw H β yv hy _=>?_⟩;obtain⟨a,c,rfl⟩:=hy;refine⟨by simp[Builtin.lenOf],λj hj=>⟨#[],by simp[flat,Sats],by simp at hj;simp[hj],λw' _=>by simp at hj;subst hj;simp[Builtin.firstCells,loadCells,loadCellsFrom]⟩⟩
 .cases h
structure AppSrc (P:Program) (ts tx ty:TypeId) (yv:Value) (w:World) (s bytes m:Nat) (arrx:Array Value):Prop where
 room: ∀(base:Option Addr)(n cap:Nat),n+m<=cap->(Builtin.append_ #[ts,tx] ty #[.slice base n cap,yv]).run P w=
  (match base with|some p=>(storeCells (p.add (n*s)) arrx.toList).run P w|none=> .ok () w).andThen λ_ w'=> .ok (.slice base (n+m) cap) w'
 new: ∀(base:Option Addr)(n cap:Nat)(arro:Array Value),(∀w':World,w'.heap=w.heap->(Builtin.firstCells s n (.slice base n cap)).run P w'= .ok arro w')-> ¬n+m<=cap->(2*(n+m)+1000)*bytes<=281474976710656->
  ∃(c:Nat)(w1:World)(e:TypeId)(zc:Array Value),n+m<=c/\w1.heap=w.heap/\w1.os=w.os/\w1.tape=w.tape/\w1.output=w.output/\zc.size=s/\
   (Builtin.append_ #[ts,tx] ty #[.slice base n cap,yv]).run P w= .ok (.slice (some ⟨w.heap.size,0,none⟩) (n+m) c) (w1.alloc (.cells (arro++arrx++Builtin.zeroCells zc (c-(n+m))) e))
theorem Lh{n m cap bytes:Nat}(hr: ¬n+m<=cap)(hb:(2*(n+m)+1000)*bytes<=281474976710656): ¬Builtin.nextslicecap (n+m) cap*bytes>2^48:=by
 have:=Uo (n+m) cap (by omega);have h3:Builtin.nextslicecap (n+m) cap*bytes<=(2*(n+m)+1000)*bytes:=q5O _ this;omega
theorem Mt {ts tx e ex : TypeId} {i : TypeInfo} {z : Value} {yv : Value} {w : World} {m : Nat} {arrx : Array Value} (h1 : P.underlying ts = some (.slice e)) (h2 : P.info? e = some i) (hz : i.zero = some z) (hzs : z.cells.size = i.size)
  (hby : 0 < i.bytes) (htx : P.underlying tx = some (.slice ex)) (hl : (Builtin.lenOf yv).run P w = .ok m w) (hf : ∀ w' : World, w'.heap = w.heap -> (Builtin.firstCells i.size m yv).run P w' = .ok arrx w') : AppSrc P ts tx ty yv w i.size i.bytes m arrx :=
 ⟨λbase n cap hr => AU h1 h2 htx hl (hf w rfl) hr, λbase n cap arro ho hr hb => by
  obtain ⟨c, w1, a1, a2, a3, a4, a5, a6⟩ := E0 (P := P) (ty := ty) h1 h2 hz htx hl hf ho hr (by omega) (Lh hr hb)
  exact ⟨c, w1, e, z.cells, a1, a2, a3, a4, a5, hzs, a6⟩⟩
theorem Mu{ts tx e:TypeId}{i:TypeInfo}{z:Value}{w:World}{k k':IntKind}{m:Nat}(h1:P.underlying ts=some (.slice e))(h2:P.info? e=some i)(hz:i.zero=some z)(hzs:z.cells.size=i.size)(hs:0<i.size)
  (hby:0<i.bytes)(htx:P.underlying tx=some (.int k))(hm:m<1000000)(hmb:m*i.bytes<=281474976710656):AppSrc P ts tx ty (.int k' m) w i.size i.bytes m (Builtin.zeroCells z.cells m):=by
 have hw:IntKind.i64.wrap (m:Int)=(m:Int):=Dn (by omega);have hneg: ¬((m:Int)<0):=by omega
 have hbig: ¬((m:Int)*(i.bytes:Int)>2^48):=by
  have:(m:Int)*i.bytes<=281474976710656:=by rw[<-q4O];exact Int.ofNat_le.2 hmb
  omega
 have hsrc: ∀w':World,(if m*i.size=0 then(pure #[]:Sem (Array Value))else do pure (Builtin.zeroCells (<-zeroValue e).cells m)).run P w'= .ok (Builtin.zeroCells z.cells m) w':=by
  intro w';by_cases h0:m*i.size=0
  .have:m=0:=by
    rcases Nat.mul_eq_zero.1 h0 with h|h
    .exact h
    .omega
   subst this;simp[Builtin.zeroCells]
  .simp only[h0,if_false,q64,jy h2 hz,q63,q65]
 refine⟨λbase n cap hr=>?_,λbase n cap arro ho hr hb=>?_⟩
 .simp only[Builtin.append_,q54,q4Z,q4Y,q64,qd h1,qd htx,q63,j7 h2,q65,if_true,asInt,asIntOf,hw,hneg,if_false,zp h2,hbig,q4Q,hr,Bool.not_true,q4M,hsrc]
  cases base<;>simp
 .refine⟨(Question.appendCap (n+m) cap e).cut (w.tape w.drawn (.appendCap (n+m) cap e)),{w with drawn:=w.drawn+1},e,z.cells,by simp[Question.cut],rfl,rfl,rfl,rfl,hzs,?_⟩
  have ho':=ho {w with drawn:=w.drawn+1} rfl;have hnb:=Lh hr hb
  have hneed: ¬(((n+m:Nat):Int)>IntKind.i64.max):=by
   have h3:2*(n+m)+1000<=(2*(n+m)+1000)*i.bytes:=Nat.le_mul_of_pos_right _ hby;have:IntKind.i64.max=9223372036854775807:=by decide
   rw[this];omega
  simp only[Builtin.append_,q54,q4Z,q4Y,q64,qd h1,qd htx,q63,j7 h2,q65,if_true,asInt,asIntOf,hw,hneg,if_false,zp h2,hbig,q4Q,hr,Bool.not_true,q4M,hneed,false_and,hnb,run_choose,Question.forced,run_askRoom,ho',hsrc,jy h2 hz,newRow,run_newObj];rfl
theorem P1{ts tx:TypeId}{s b:Nat}{v:V}{xs:List V}{ks:List (Key×KB)}(hb:elB P ts=some (s,b))(hs:0<s)(hby:0<b)(hz:zOk P ts s=true)(h:Ms P ts tx m s b v=some (xs,ks))(hm: ∀k b,mget m k=some b->b.ok):
  v.on=true/\okE s xs/\(∀p∈ks,mget m p.1=some p.2)/\ ∀(w:World)(H:Heap)(β:Bm)(yv:Value),(qc D v).sat β H yv->(∀p∈vh D ks,p.2.rep β w H p.1)->
   ∃arrx:Array Value,Sats β H (flat D xs) arrx.toList/\arrx.size=xs.length*s/\AppSrc P ts tx ty yv w s b xs.length arrx:=by
 have hsl: ∀v,(@Bool.rec (λ_=>Option (List V×List (Key×KB))) none (srcL m s v) (jB P tx))=some (xs,ks)->v.on=true/\okE s xs/\(∀p∈ks,mget m p.1=some p.2)/\ ∀(w:World)(H:Heap)(β:Bm)(yv:Value),(qc D v).sat β H yv->(∀p∈vh D ks,p.2.rep β w H p.1)->
   ∃arrx:Array Value,Sats β H (flat D xs) arrx.toList/\arrx.size=xs.length*s/\AppSrc P ts tx ty yv w s b xs.length arrx:=by
  intro v h
  cases hi:jB P tx with
  |false=>rw[hi]at h;cases h
  |true=>
   rw[hi]at h;obtain⟨a1,a2,a3,a4⟩:=BH (D:=D) (P:=P) h hm;refine⟨a1,a2,a3,λw H β yv hy hk=>?_⟩;obtain⟨b1,b2⟩:=a4 w H β yv hy hk;obtain⟨arrx,c1,c2,c3⟩:=b2 _ (q5B _);rw[q5n]at c1;unfold jB at hi;split at hi
   .rename_i ex htx
    unfold zOk at hz;split at hz
    .rename_i z hez
     obtain⟨e,i,h1,h2,rfl,rfl⟩:=zL hb;obtain⟨e',i',zv,h1',h2',hz',rfl⟩:=Ao hez;rw[h1]at h1';cases h1'
     rw[h2]at h2';cases h2'
     exact⟨arrx,c1,c2,Mt h1 h2 hz' (q5w hz) hby htx b1 c3⟩
    .cases hz
   .cases hi
 unfold Ms at h;split at h
 .rename_i kk n
  cases hc:(intK P tx).isSome&&!isU (elV P ts)&&Nat.beq (elV P ts).size s&&Nat.blt n 1000000&&Nat.ble (n*b) 281474976710656 with
  |false=>rw[hc]at h;cases h
  |true=>
   rw[hc]at h;cases h;simp only[q4L,q4N]at hc;obtain⟨⟨⟨⟨c1,c2⟩,c3⟩,c4⟩,c5⟩:=hc;have c3:=q5w c3;have c4:n<1000000:=by simpa using c4
   have c5:n*b<=281474976710656:=by simpa using c5
   obtain⟨z,hez,hzs,hzo,hzc⟩:=En (D:=D) hb (vU c2) c3;obtain⟨e,i,h1,h2,rfl,rfl⟩:=zL hb;obtain⟨e',i',zv,h1',h2',hz',rfl⟩:=Ao hez;rw[h1]at h1';cases h1'
   rw[h2]at h2';cases h2'
   have htx: ∃k,P.underlying tx=some (.int k):=by
    unfold intK at c1;split at c1
    .rename_i k hk;exact⟨k,hk⟩
    .cases c1
   obtain⟨k,htx⟩:=htx;refine⟨rfl,λx hx=>by rw[(List.mem_replicate.1 hx).2];exact⟨hzo,c3⟩,λp hp=>by simp at hp,λw H β yv hy _=>?_⟩;obtain⟨rfl,_⟩:=hy;rw[List.length_replicate];refine⟨Builtin.zeroCells zv.cells n,?_,by rw[BN,hzs],Mu h1 h2 hz' hzs hs hby htx c4 c5⟩;have:=zK hzs (hzc β H) n;unfold Builtin.zeroCells;rw[hzs];rw[hzs]at this;exact this
 .exact hsl _ h
theorem Hk{ts tx:TypeId}{x y:Operand}{dst:Option Tmp}{pos:String}{after:Array Edge}{guard:Option (Nat×Bool)}{a:Act}{w:World}{r:Result Value}(h:(Builtin.append_ #[ts,tx] ty #[a.eval x,a.eval y]).run P w=r):
  (execOp a.eval ⟨dst,.call {callee:= .builtin .append,args:= #[x,y],argTypes:= #[ts,tx]},ty,pos,after,guard⟩).run P w=r.andThen λv w'=> .ok (.value v) w':=by
 subst h;have hargs:(#[x,y]:Array Operand).map a.eval= #[a.eval x,a.eval y]:=by simp
 simp only[execOp,resolve,q64,q65,q63,invoke,builtin,hargs]
theorem Mv {ts tx : TypeId} {x y : Operand} {dst : Option Tmp} {pos : String} {after : Array Edge} {guard : Option (Nat × Bool)} {a : Act} {w : World} {s bytes m n b off cap : Nat} {arr arrx : Array Value} {T : TypeId}
  (ha : AppSrc P ts tx ty (a.eval y) w s bytes m arrx) (hx : a.eval x = .slice (some ⟨b, off, none⟩) n cap) (hroom : n + m <= cap) (hw : w.heap[b]? = some (.cells arr T (0, 0))) (hone : ∀ v ∈ arrx.toList, v.oneC = true) (hsz : arrx.size = m * s)
  (hfit : off + n * s + m * s <= arr.size) : ∃ w', (execOp a.eval ⟨dst, .call { callee := .builtin .append, args := #[x, y], argTypes := #[ts, tx] }, ty, pos, after, guard⟩).run P w = .ok (.value (.slice (some ⟨b, off, none⟩) (n + m) cap)) w' /\
   SetArr w b (spl arr.toList (off + n * s) arrx.toList).toArray T w' := by
 obtain ⟨w', hst, hset⟩ := zi (P := P) arrx.toList (off + n * s) 0 w arr hw hone (by simp; omega);refine ⟨w', ?_, hset⟩;have hrun := ha.room (some ⟨b, off, none⟩) n cap hroom;simp only [ji] at hrun;rw [hst, <- hx] at hrun;rw [Hk hrun]; rfl
theorem Pn{ts tx:TypeId}{x y:Operand}{dst:Option Tmp}{pos:String}{after:Array Edge}{guard:Option (Nat×Bool)}{a:Act}{w:World}{H:Heap}{β:Bm}{s bytes m n cap d:Nat}{base:Option Addr}{arro arrx:Array Value}{cso csx:List Atom}
  (ha:AppSrc P ts tx ty (a.eval y) w s bytes m arrx)(hx:a.eval x= .slice base n cap)(hroom: ¬n+m<=cap)(hbig:(2*(n+m)+1000)*bytes<=281474976710656)(hsz:arrx.size=m*s)(hszo:arro.size=n*s)
  (ho: ∀w':World,w'.heap=w.heap->(Builtin.firstCells s n (.slice base n cap)).run P w'= .ok arro w')(hso:Sats β H cso arro.toList)(hsx:Sats β H csx arrx.toList)(hstr: ∀a∈cso++csx,AStr a)(hd:β d=none)(hon:Heap.On H w)(hne:cso++csx≠[]):
  ∃c w',(execOp a.eval ⟨dst,.call {callee:= .builtin .append,args:= #[x,y],argTypes:= #[ts,tx]},ty,pos,after,guard⟩).run P w= .ok (.value (.slice (some ⟨w.heap.size,0,none⟩) (n+m) c)) w'/\n+m<=c/\
   Step w H β [] [d] [] w' H (β.set d (some (w.heap.size,c)))/\(groB s (cso++csx)).rep (β.set d (some (w.heap.size,c))) w' H d:=by
 obtain⟨c,w1,e,zc,hc1,e1,e2,e3,e4,hzs,hrun⟩:=ha.new base n cap arro ho hroom hbig;rw[<-hx]at hrun;have hon1:=hon.congr e1;have hst:=Step.alloc (β:=β) d c (.cells (arro++arrx++Builtin.zeroCells zc (c-(n+m))) e) hon1;have hsize:w1.heap.size=w.heap.size:=by rw[e1]
 rw[hsize]at hst;refine⟨c,_,by rw[Hk hrun];rfl,hc1,⟨by rw[hst.os,e2],by rw[hst.tape,e3],by rw[hst.output,e4],(by simp[hsize]),λb hb' hk'=>?_,hst.hle,λb hb'=> .inl hb',hst.hon,hst.beta,λq hq b c' hb'=>⟨(hst.fresh q hq b c' hb').1,.inl ?_⟩,hst.ninj⟩,?_⟩
 .rw[hst.keep b (by omega) (λq hq=>by simp at hq),e1]
 .have:q=d:=by simpa using hq
  subst this;rw[Bm.set_same]at hb';cases hb';exact q5B _
 .have hg:groB s (cso++csx)= .grow s (cso++csx):=by
   cases hcs:cso++csx with
   |nil=>exact absurd hcs hne
   |cons a l=>rfl
  rw[hg];have hall:=Sats.append hso hsx;have hl1:(cso++csx).length=(arro++arrx).toList.length:=by rw[Sats.length hall];simp
  refine .inr ⟨w.heap.size,c,_,e,Bm.set_same _ _ _,by rw[<-hsize];exact vS w1 _,?_,?_,?_⟩
  .simp only[Array.size_append,hszo,hsz,BN,hzs]
   rw[<-q5s,<-q5s]
   congr 1;omega
  .rw[hl1];simp
  .rw[hl1]
   have:(arro++arrx++Builtin.zeroCells zc (c-(n+m))).toList.take (arro++arrx).toList.length=arro.toList++arrx.toList:=by
    rw[Array.toList_append (xs:=arro++arrx),List.take_left,Array.toList_append]
   rw[this];refine Sats.congr (Heap.Le.refl _) (λq' hq'=>Bm.set_other _ _ λe=>?_) hall;subst e;exact absurd hd (Sats.str hstr hall hq')
theorem Step.weak{w:World}{H:Heap}{β:Bm}{kw kn kd kw' kd':List Nat}{w':World}{H':Heap}{β':Bm}(h:Step w H β kw kn kd w' H' β')(h1: ∀k∈kw,k∈kw')(h2: ∀k∈kd,k∈kd'):Step w H β kw' kn kd' w' H' β':=
 ⟨h.os,h.tape,h.output,h.size,λb hb hk=>h.keep b hb λk hkk c=>hk k (h1 k hkk) c,h.hle,h.hnew,h.hon,h.beta,λk hk b c hb=>⟨(h.fresh k hk b c hb).1,(h.fresh k hk b c hb).2.imp id λ⟨k0,a,c0,e⟩=>⟨k0,h2 k0 a,c0,e⟩⟩,h.ninj⟩
theorem Xx{α:Type}{A V:List α}{off n:Nat}(h1:off+V.length<=n)(h2:n<=A.length):(spl A off V).take n=spl (A.take n) off V:=by
 unfold spl;rw[List.take_append,List.take_append,q5q,List.drop_take];have e1:min n off=off:=by omega
 have e2:min off n=off:=by omega
 simp[q5a];have e3:min off A.length=off:=by omega
 rw[e3];have e4:List.take (n-off) V=V:=q5o (by omega);rw[e4,e1,q5q,e2,Nat.sub_sub]
theorem TA{es:Nat}{L l:List V}(hL:okE es L)(hl:okE es l){i:Nat}(hi:i+l.length<=L.length):spl (flat D L) (i*es) (flat D l)=flat D (L.take i++(l++L.drop (i+l.length))):=by
 unfold spl;rw[Aq,Aq,Fq hL i (by omega),jK hl,<-q5s,Fp hL _ hi]
theorem NX{es N:Nat}{q:Sq V}{kb kb':KB}{k b:Nat}{β:Bm}{w w':World}{H:Heap}{i c:Nat}{l:List V}{vs:List Value}{arr:Array Value}{T:TypeId}(hkb:(kb= .arr es N q/\kb'= .arr es N (Sq.overL q i l))\/(kb= .gro es N q/\kb'= .gro es N (Sq.overL q i l)))(hok:kb.ok)
  (hl:okE es l)(hi:i+l.length<=N)(h:(kb.blk D).rep β w H k)(hβ:β k=some (b,c))(hw:w.heap[b]?=some (.cells arr T (0,0)))(hs:Sats β H (flat D l) vs)(hset:SetArr w b (spl arr.toList (i*es) vs).toArray T w'):(kb'.blk D).rep β w' H k:=by
 have hbr:Br q N/\okE es (Sq.toL .und q 0 N):=by rcases hkb with⟨rfl,_⟩|⟨rfl,_⟩<;>exact hok
 have hto:=Lz V.und hbr.1 l hi;have hL:=hbr.2;have hNl:(Sq.toL .und q 0 N).length=N:=Sq.toL_len _ _ _ _;have hfl:=jK (D:=D) hL;rw[hNl]at hfl;have hfo:=TA (D:=D) hL hl (i:=i) (by omega);rw[<-hto]at hfo;have hvl:=Sats.length hs;rw[jK hl]at hvl;have hfit:i*es+l.length*es<=N*es:=by rw[<-q5s];exact q5O _ hi
 have hlen2:(flat D (Sq.toL .und (Sq.overL q i l) 0 N)).length=(flat D (Sq.toL .und q 0 N)).length:=by rw[<-hfo];unfold spl;simp[jK hl];omega
 have hrig:(Blk.rigid (flat D (Sq.toL .und q 0 N))).rep β w H k->(Blk.rigid (flat D (Sq.toL .und (Sq.overL q i l) 0 N))).rep β w' H k:=by
  rintro⟨b',c',arr',T',h1,h2,h3⟩
  rw[hβ]at h1;cases h1
  rw[hw]at h2;cases h2
  refine⟨b,c,_,T,hβ,hset.at_,?_⟩;rw[<-hfo];exact h3.spl _ hs
 rcases hkb with⟨rfl,rfl⟩|⟨rfl,rfl⟩
 .exact hrig h
 .have h:(groB es (flat D (Sq.toL .und q 0 N))).rep β w H k:=h
  show(groB es (flat D (Sq.toL .und (Sq.overL q i l) 0 N))).rep β w' H k;rcases Hx (es:=es) hlen2.symm with⟨e1,e2⟩|⟨e1,e2⟩<;>rw[e1]at h<;>rw[e2]
  .exact hrig h
  .rcases h with⟨h1,_⟩|⟨b',c',arr',T',h1,h2,h3,h4,h5⟩
   .rw[hβ]at h1;cases h1
   .rw[hβ]at h1;cases h1
    rw[hw]at h2;cases h2
    have hsz:(spl arr.toList (i*es) vs).length=arr.size:=by unfold spl;simp;omega
    refine .inr ⟨b,c,_,T,hβ,hset.at_,by simp[hsz,h3],by simp[hsz,hlen2];exact h4,?_⟩;rw[hlen2];show Sats β H _ ((spl arr.toList (i*es) vs).take _);rw[Xx (by omega) (by simpa using h4),<-hfo];exact h5.spl _ hs
theorem Qj{es N:Nat}{q:Sq V}{i:Nat}{l:List V}(hok:Br q N/\okE es (Sq.toL .und q 0 N))(hl:okE es l)(hi:i+l.length<=N):Br (Sq.overL q i l) N/\okE es (Sq.toL .und (Sq.overL q i l) 0 N):=
 ⟨Br.overL hok.1 hi,by rw[Lz V.und hok.1 l hi];exact GH.2 ⟨At hok.2 _,GH.2 ⟨hl,HO hok.2 _⟩⟩⟩
theorem PM{es N:Nat}{q:Sq V}{k b c:Nat}{β:Bm}{w:World}{H:Heap}(hL:okE es (Sq.toL .und q 0 N))(h0:0<N*es)(hβ:β k=some (b,c))(h:((KB.gro es N q).blk D).rep β w H k):
  ∃arr T,w.heap[b]?=some (.cells arr T (0,0))/\arr.size=c*es/\N*es<=arr.size/\Sats β H (flat D (Sq.toL .und q 0 N)) (arr.toList.take (N*es)):=by
 have hfl:=jK (D:=D) hL;rw[Sq.toL_len]at hfl
 have hg:groB es (flat D (Sq.toL .und q 0 N))= .grow es (flat D (Sq.toL .und q 0 N)):=by
  cases hc:flat D (Sq.toL .und q 0 N)with
  |nil=>rw[hc]at hfl;simp at hfl;omega
  |cons a l=>rfl
 have h:(groB es (flat D (Sq.toL .und q 0 N))).rep β w H k:=h;rw[hg]at h;rcases h with⟨h1,_⟩|⟨b',c',arr,T,h1,h2,h3,h4,h5⟩
 .rw[hβ]at h1;cases h1
 .rw[hβ]at h1;cases h1
  rw[hfl]at h4 h5;exact⟨arr,T,h2,h3,h4,h5⟩
theorem Zt{α:Type}{o:Option α}(h:isNo o=true):o=none:=by cases o<;>first|rfl|cases h
theorem BW{v:V}(h:v.on=true):v≠ .und:=λe=>by subst e;cases h
theorem L9{ks:List (Key×KB)}(h: ∀p∈ks,mget m p.1=some p.2)(hd:mget m d=none):look (vh D ks) d.num=none:=by
 induction ks with
 |nil=>rfl
 |cons p r ih=>
  have hne:p.1.num≠d.num:=λe=>by
   have:=Key.num_inj e;have hp:=h p q5f;rw[this,hd]at hp;cases hp
  show look ((p.1.num,p.2.blk D)::vh D r) d.num=none;have:=ih λq hq=>h q (q5e _ hq)
  simp only[look,js hne,cond_false,this]
theorem X3{kin:List (Nat×Blk)}{d:Nat}{B:Blk}(h:look kin d=none):kwOf kin [(d,some B)]=[]/\qu kin [(d,some B)]=[d]/\jk [(d,some B)]=[]:=by simp[kwOf,qu,jk,h]
theorem OR{kin:List (Nat×Blk)}{k:Nat}{B:Blk}(h:(look kin k).isSome=true):kwOf kin [(k,some B)]=[k]/\qu kin [(k,some B)]=[]/\jk [(k,some B)]=[]:=by
 obtain⟨x,hx⟩:=Option.isSome_iff_exists.1 h;simp[kwOf,qu,jk,hx]
theorem X2{kin:List (Nat×Blk)}{k d:Nat}{B:Blk}(h:(look kin k).isSome=true)(hd:look kin d=none):kwOf kin [(k,none),(d,some B)]=[k]/\qu kin [(k,none),(d,some B)]=[d]/\jk [(k,(none:Option Blk)),(d,some B)]=[k]:=by
 obtain⟨x,hx⟩:=Option.isSome_iff_exists.1 h;simp[kwOf,qu,jk,hx,hd]
theorem Qf{s:Nat}{L:List V}(h:okE s L)(hs:0<s)(hne:L≠[]):flat D L≠[]:=λe=>by
 have:=jK (D:=D) h;rw[e]at this
 cases L with
 |nil=>exact hne rfl
 |cons a l=>simp[q5V]at this;omega
theorem YB {ts tx : TypeId} {x y : Operand} {u v : V} {s b : Nat} {xs : List V} {ks : List (Key × KB)} (hs : 0 < s) (hby : 0 < b) (hd : mget m d = none)
    (hsrc : (∀ k b, mget m k = some b -> b.ok) -> v.on = true /\ okE s xs /\ (∀ p ∈ ks, mget m p.1 = some p.2) /\ ∀ (w : World) (H : Heap) (β : Bm) (yv : Value), (qc D v).sat β H yv -> (∀ p ∈ vh D ks, p.2.rep β w H p.1) ->
      ∃ arrx : Array Value, Sats β H (flat D xs) arrx.toList /\ arrx.size = xs.length * s /\ AppSrc P ts tx ty yv w s b xs.length arrx) :
    jj D P (.call { callee := .builtin .append, args := #[x, y], argTypes := #[ts, tx] }) ty [x, y] [u, v] m d (appL m s b u xs ks d) := by
  have hnone : ∀ u : V, xs = [] -> u.on = true -> (∀ β H xv, (qc D u).sat β H xv -> ∃ base n cap, xv = .slice base n cap /\ n <= cap) ->
      jj D P (.call { callee := .builtin .append, args := #[x, y], argTypes := #[ts, tx] }) ty [x, y] [u, v] m d (.val u ks) := by
    intro u he hu hsl _ hv hm;obtain ⟨a1, a2, a3, a4⟩ := hsrc hm;refine ⟨λz hz => ?_, a3, ?_, hv u (by simp), BW hu, trivial⟩
    · simp at hz; rcases hz with rfl | rfl <;> exact BW (by assumption)
    · refine opk ?_
      show OpOk P _ ty [(x, qc D u), (y, qc D v)] (vh D ks) (qc D u) [];refine qk λa w H β hins hkin _ => ?_
      have hx := hins (x, qc D u) (by simp);obtain ⟨arrx, b1, b2, b3⟩ := a4 w H β _ (hins (y, qc D v) (by simp)) hkin;obtain ⟨base, n, cap, hxe, hle⟩ := hsl β H _ hx;simp only at hx hxe;refine ⟨a.eval x, hx, λ_ _ _ _ => ?_⟩;subst he;have harr : arrx.toList = [] := q4V (by simpa using b2);have hrun := b3.room base n cap (by simpa using hle);rw [harr] at hrun;have e : (match base with | some p => (storeCells (p.add (n * s)) []).run P w | none => Result.ok () w) = .ok () w := by cases base <;> simp [storeCells]
      have hrun : (Builtin.append_ #[ts, tx] ty #[.slice base n cap, a.eval y]).run P w = .ok (.slice base n cap) w := by
        rw [hrun];show Result.andThen (match base with | some p => (storeCells (p.add (n * s)) []).run P w | none => Result.ok () w) _ = _;rw [e]; rfl
      rw [<- hxe] at hrun;rw [Hk hrun]; rfl
  -- a new block
  have hnew : ∀ (u : V) (n : Nat) (L : List V) (ks' : List (Key × KB)), xs ≠ [] -> u.on = true -> L.length = n -> (2 * (n + xs.length) + 1000) * b <= 281474976710656 ->
      ((∀ k b, mget m k = some b -> b.ok) -> okE s L /\ (∀ p ∈ ks', mget m p.1 = some p.2) /\ (∀ p ∈ ks, p ∈ ks') /\ ∀ (w : World) (H : Heap) (β : Bm) (xv : Value), (qc D u).sat β H xv -> (∀ p ∈ vh D ks', p.2.rep β w H p.1) ->
        ∃ base cap, xv = .slice base n cap /\ ¬ n + xs.length <= cap /\ ∃ arro : Array Value, Sats β H (flat D L) arro.toList /\ arro.size = n * s /\ ∀ w' : World, w'.heap = w.heap -> (Builtin.firstCells s n xv).run P w' = .ok arro w') ->
      jj D P (.call { callee := .builtin .append, args := #[x, y], argTypes := #[ts, tx] }) ty [x, y] [u, v] m d (.nw (.gs d 0 (n + xs.length) s) ks' (.gro s (n + xs.length) (Sq.pushL .e 0 (L ++ xs)))) := by
    intro u n L ks' hne hu hLn hbig hL _ hv hm;obtain ⟨a1, a2, a3, a4⟩ := hsrc hm;obtain ⟨l1, l2, l3, l4⟩ := hL hm
    have htl : Sq.toL .und (Sq.pushL .e 0 (L ++ xs)) 0 (n + xs.length) = L ++ xs := by
      have := AX V.und (L ++ xs)
      rwa [q55, hLn] at this
    have hbr : Br (Sq.pushL .e 0 (L ++ xs)) (n + xs.length) := by
      have := Br.pushL (l := L ++ xs) (Br.e (α := V))
      rwa [q5W, q55, hLn] at this
    refine ⟨λz hz => ?_, l2, ?_, trivial, by simp [KR.res], ⟨hbr, by rw [htl]; exact GH.2 ⟨l1, a2⟩⟩⟩
    · simp at hz; rcases hz with rfl | rfl <;> exact BW (by assumption)
    · show OpK P _ ty [(x, qc D u), (y, qc D v)] (vh D ks') (.c (.one (.ks d.num (0 * s) 0 (n + xs.length)))) [(d.num, some (groB s (flat D (Sq.toL .und (Sq.pushL .e 0 (L ++ xs)) 0 (n + xs.length)))))] d.num
      rw [htl, Aq];intro dst pos after guard a w H β K Q h1 h2 h3 h4 h5 hK;obtain ⟨e1, e2, e3⟩ := X3 (B := groB s (flat D L ++ flat D xs)) (L9 (D := D) l2 hd);rw [e1, e2, e3] at hK;have hβd := h5 (by rw [e2]; simp)
      obtain ⟨arrx, b1, b2, b3⟩ := a4 w H β _ (h1 (y, qc D v) (by simp)) (λp hp => by
        obtain ⟨q, hq, rfl⟩ := List.mem_map.1 hp
        exact (h2 _ (List.mem_map.2 ⟨q, l3 q hq, rfl⟩)).1)
      obtain ⟨base, cap, hxe, hroom, arro, c1, c2, c3⟩ := l4 w H β _ (h1 (x, qc D u) (by simp)) (λp hp => (h2 p hp).1);simp only at hxe
      obtain ⟨c, w', g1, g2, g3, g4⟩ := Pn (P := P) (ty := ty) (dst := dst) (pos := pos) (after := after) (guard := guard) b3 hxe hroom hbig b2 c2 (by rw [hxe] at c3; exact c3) c1 b1
        (λq hq => by rcases q5c.1 hq with hq | hq; exact Ar _ _ hq; exact Ar _ _ hq) hβd h4 (by
          have := Qf (D := D) a2 hs hne
          simp [this])
      unfold Oper.wp;rw [g1];refine hK _ w' H _ g3 ⟨_, _, Bm.set_same _ _ _, by omega, by simp⟩ ?_;intro k' b' hb';simp only [q5j, q62, q61] at hb';obtain ⟨rfl, rfl⟩ := hb';exact g4
  -- in place
  have hwr : ∀ (u : V) (k : Key) (kb kb' : KB) (N lo n : Nat) (q : Sq V) (res : V), xs ≠ [] -> u.on = true -> res.on = true -> res.ok1 -> mget m k = some kb -> lo + n + xs.length <= N ->
      ((kb = .arr s N q /\ kb' = .arr s N (Sq.overL q (lo + n) xs)) \/ (kb = .gro s N q /\ kb' = .gro s N (Sq.overL q (lo + n) xs))) ->
      (∀ β H xv w, (qc D u).sat β H xv -> (kb.blk D).rep β w H k.num -> ∃ b c cap, β k.num = some (b, c) /\ xv = .slice (some ⟨b, lo * s, none⟩) n cap /\ n + xs.length <= cap /\ (qc D res).sat β H (.slice (some ⟨b, lo * s, none⟩) (n + xs.length) cap)) ->
      jj D P (.call { callee := .builtin .append, args := #[x, y], argTypes := #[ts, tx] }) ty [x, y] [u, v] m d (.wr res ((k, kb) :: ks) k kb') := by
    intro u k kb kb' N lo n q res hne hu hr hro hb hfit hkb hx _ hv hm;obtain ⟨a1, a2, a3, a4⟩ := hsrc hm;have hbo := hm k kb hb;have hbo2 : Br q N /\ okE s (Sq.toL .und q 0 N) := by rcases hkb with ⟨rfl, _⟩ | ⟨rfl, _⟩ <;> exact hbo
    have hbo' : kb'.ok := by
      have := Qj (i := lo + n) (l := xs) hbo2 a2 hfit;rcases hkb with ⟨_, rfl⟩ | ⟨_, rfl⟩ <;> exact this
    have hks : ∀ p ∈ (k, kb) :: ks, mget m p.1 = some p.2 := λp hp => by
      rcases q5d.1 hp with rfl | hp
      · exact hb
      · exact a3 p hp
    refine ⟨λz hz => ?_, hks, ?_, V.okC_ok ((V.on_okC hr).2 hro), BW hr, hbo', ⟨kb, by simp [KR.ks]⟩⟩
    · simp at hz; rcases hz with rfl | rfl <;> exact BW (by assumption)
    · refine opk ?_
      show OpOk P _ ty [(x, qc D u), (y, qc D v)] (vh D ((k, kb) :: ks)) (qc D res) [(k.num, some (kb'.blk D))];intro dst pos after guard a w H β K Q h1 h2 h3 h4 hK;have hkin : (k.num, kb.blk D) ∈ vh D ((k, kb) :: ks) := by simp [vh]
      obtain ⟨e1, e2, e3⟩ := OR (B := kb'.blk D) (kin := vh D ((k, kb) :: ks)) (k := k.num) (by simp [vh, look]);rw [e1, e2, e3] at hK;obtain ⟨hrep, hown⟩ := h2 _ hkin
      obtain ⟨arrx, b1, b2, b3⟩ := a4 w H β _ (h1 (y, qc D v) (by simp)) (λp hp => (h2 p (by
        obtain ⟨q, hq, rfl⟩ := List.mem_map.1 hp
        exact List.mem_map.2 ⟨q, q5e _ hq, rfl⟩)).1)
      obtain ⟨bb, c, cap, hβ, hxe, hroom, hres⟩ := hx β H _ w (h1 (x, qc D u) (by simp)) hrep;simp only at hxe;have hfl := jK (D := D) hbo2.2;rw [Sq.toL_len] at hfl;have hmul : (lo + n + xs.length) * s <= N * s := q5O _ hfit;rw [q5s, q5s] at hmul;obtain ⟨b', c', arr, T, h | h⟩ := HW (es := s) (n := N) (q := q) (by rcases hkb with ⟨h, _⟩ | ⟨h, _⟩; exact .inl h; exact .inr h) hrep
      · obtain ⟨g1, g2, g3, g4⟩ := h
        rw [hβ] at g1; cases g1
        obtain ⟨w', r1, r2⟩ := Mv (P := P) (ty := ty) (dst := dst) (pos := pos) (after := after) (guard := guard) b3 hxe hroom g2 (Sats.oneC b1) b2 (by omega);rw [<- q5s] at r2;unfold Oper.wp;rw [r1];refine hK _ w' H β (Step.setArr r2 hβ (hown _ _ hβ).1 h4) hres ?_;intro k' b' hb';simp only [q5j, q62, q61] at hb';obtain ⟨rfl, rfl⟩ := hb';exact NX (es := s) (N := N) (q := q) hkb hbo a2 hfit hrep hβ g2 b1 r2
      · rw [hβ] at h; cases h.1
  unfold appL;split
  · split
    · exact hnone _ rfl rfl λβ H xv h => ⟨none, 0, 0, h.1, q5B _⟩
    · rename_i k lo n c w0
      cases hc : Nat.ble n c with
      | false => exact kbad
      | true => exact hnone _ rfl rfl λβ H xv h => by obtain ⟨bb, c', _, rfl⟩ := h; exact ⟨_, _, _, rfl, by simpa using hc⟩
    · exact hnone _ rfl rfl λβ H xv h => by obtain ⟨bb, c', _, hle, rfl⟩ := h; exact ⟨_, _, _, rfl, by omega⟩
    · exact kbad
  · rename_i x0 xr
    generalize hxs : x0 :: xr = xs at *;have hne : xs ≠ [] := by rw [<- hxs]; simp
    have hpos : 0 < xs.length := List.length_pos_iff.2 hne;split
    · cases hc : Nat.ble ((2 * xs.length + 1000) * b) 281474976710656 with
      | false => exact kbad
      | true =>
        have hc : (2 * xs.length + 1000) * b <= 281474976710656 := by simpa using hc
        have := hnew (.uu (.slice none 0 0)) 0 [] ks hne rfl rfl (by rw [q5W]; exact hc) λhm => ⟨λz hz => by simp at hz, (hsrc hm).2.2.1, λp hp => hp, λw H β xv h _ => ⟨none, 0, h.1, by omega, #[], by simp [flat, Sats], by simp, λw' _ => by rw [h.1]; simp [Builtin.firstCells]⟩⟩
        rw [q5W, q5k] at this;exact this
    · rename_i k lo n c w0
      split
      · rename_i es N q hb
        cases hc : Nat.beq w0 es && Nat.beq es s && Nat.ble (lo + c) N && Nat.ble n c && Nat.ble ((2 * (n + xs.length) + 1000) * b) 281474976710656 with
        | false => exact kbad
        | true =>
          simp only [q4L] at hc;obtain ⟨⟨⟨⟨c1, c2⟩, c3⟩, c4⟩, c5⟩ := hc;have c1 := q5w c1;have c2 := q5w c2;subst c1; subst c2
          have c3 : lo + c <= N := by simpa using c3
          have c4 : n <= c := by simpa using c4
          have c5 : (2 * (n + xs.length) + 1000) * b <= 281474976710656 := by simpa using c5
          cases hr : Nat.ble (n + xs.length) c with
          | false =>
            have hr : ¬ n + xs.length <= c := bleF hr
            have hsl : srcL m w0 (.sl k lo n c w0) = some (Sq.toL .und q lo n, [(k, .arr w0 N q)]) := by
              have e1 : Nat.beq w0 w0 = true := by simp
              have e2 : Nat.ble (lo + n) N = true := by simp; omega
              unfold srcL;simp only [hb, e1, e2, Bool.and_self]
            refine hnew (.sl k lo n c w0) n (Sq.toL .und q lo n) ((k, .arr w0 N q) :: ks) hne rfl (Sq.toL_len _ _ _ _) c5 λhm => ?_
            obtain ⟨_, s2, s3, s4⟩ := BH (D := D) (P := P) hsl hm;refine ⟨s2, λp hp => ?_, λp hp => q5e _ hp, λw H β xv h hk => ?_⟩
            · rcases q5d.1 hp with rfl | hp
              · exact hb
              · exact (hsrc hm).2.2.1 p hp
            · obtain ⟨_, t2⟩ := s4 w H β xv h (λp hp => hk p (by simp [vh] at hp ⊢; exact .inl hp))
              obtain ⟨arro, u1, u2, u3⟩ := t2 n (by rw [Sq.toL_len]; exact q5B _);rw [q5o (by rw [Sq.toL_len]; exact q5B _)] at u1;obtain ⟨bb, c', hβ, rfl⟩ := h;exact ⟨_, _, rfl, hr, arro, u1, u2, u3⟩
          | true =>
            have hr : n + xs.length <= c := by simpa using hr
            refine hwr (.sl k lo n c w0) k _ _ N lo n q (.sl k lo (n + xs.length) c w0) hne rfl rfl trivial hb (by omega) (.inl ⟨rfl, rfl⟩) λβ H xv w h _ => ?_
            obtain ⟨bb, c', hβ, rfl⟩ := h;exact ⟨bb, c', c, hβ, rfl, hr, bb, c', hβ, rfl⟩
      · exact kbad
    · rename_i k lo n w0
      split
      · rename_i es N q hb
        cases hc : Nat.beq w0 es && Nat.beq es s && Nat.ble (lo + n) N && Nat.ble ((2 * (n + xs.length) + 1000) * b) 281474976710656 with
        | false => exact kbad
        | true =>
          simp only [q4L] at hc;obtain ⟨⟨⟨c1, c2⟩, c3⟩, c5⟩ := hc;have c1 := q5w c1;have c2 := q5w c2;subst c1; subst c2
          have c3 : lo + n <= N := by simpa using c3
          have c5 : (2 * (n + xs.length) + 1000) * b <= 281474976710656 := by simpa using c5
          cases hr : Nat.ble (lo + n + xs.length) N with
          | true =>
            have hr : lo + n + xs.length <= N := by simpa using hr
            intro hbad hv hm;have hbo := hm k _ hb;have h0 : 0 < N * w0 := q5P (by omega) hs;refine hwr (.gs k lo n w0) k _ _ N lo n q (.gs k lo (n + xs.length) w0) hne rfl rfl trivial hb hr (.inr ⟨rfl, rfl⟩) (λβ H xv w h hrep => ?_) hbad hv hm;obtain ⟨bb, c', hβ, hle, rfl⟩ := h;obtain ⟨arr, T, g1, g2, g3, g4⟩ := PM (D := D) hbo.2 h0 hβ hrep;have hNc : N <= c' := Nat.le_of_mul_le_mul_right (by omega) hs;exact ⟨bb, c', c' - lo, hβ, rfl, by omega, bb, c', hβ, by omega, rfl⟩
          | false =>
            cases hl : Nat.beq lo 0 && Nat.blt 0 N with
            | false => exact kbad
            | true =>
              rw [q4L] at hl;have hl0 := q5w hl.1;subst hl0;have hN0 : 0 < N := by simpa using hl.2
              have hr : ¬ 0 + n + xs.length <= N := bleF hr;have hn : n <= N := by omega
              intro _ hv hm;obtain ⟨a1, a2, a3, a4⟩ := hsrc hm;have hbo := hm k _ hb;have h0 : 0 < N * w0 := q5P hN0 hs;generalize hQ : (@Bool.rec (λ_ => Sq V) (Sq.pushL .e 0 (Sq.toL .und q 0 n ++ xs)) (Sq.pushL q n xs) (Nat.beq n N)) = Q'
              have hQ2 : Br Q' (n + xs.length) /\ Sq.toL .und Q' 0 (n + xs.length) = Sq.toL .und q 0 n ++ xs := by
                cases hnN : Nat.beq n N with
                | true =>
                  have := q5w hnN;subst this;rw [hnN] at hQ;simp only at hQ;subst hQ;exact ⟨Br.pushL hbo.1, LA _ hbo.1 _⟩
                | false =>
                  rw [hnN] at hQ;simp only at hQ;subst hQ;have e1 := Br.pushL (l := Sq.toL .und q 0 n ++ xs) (Br.e (α := V));have e2 := AX V.und (Sq.toL .und q 0 n ++ xs);rw [q55, Sq.toL_len] at e1 e2;rw [q5W] at e1;exact ⟨e1, e2⟩
              have hcut : (Sq.toL .und q 0 N).take n = Sq.toL .und q 0 n := by
                have := Ov V.und q (lo := 0) (n := n) (k := N) (by omega);simpa using this
              have hLo : okE w0 (Sq.toL .und q 0 n) := by rw [<- hcut]; exact At hbo.2 _
              have hks : ∀ p ∈ (k, KB.gro w0 N q) :: ks, mget m p.1 = some p.2 := λp hp => by
                rcases q5d.1 hp with rfl | hp
                · exact hb
                · exact a3 p hp
              refine ⟨λz hz => ?_, hks, ?_, trivial, by simp [KR.res], ⟨hQ2.1, by rw [hQ2.2]; exact GH.2 ⟨hLo, a2⟩⟩, ⟨_, q5f⟩⟩
              · simp at hz; rcases hz with rfl | rfl
                · simp
                · exact BW a1
              · show OpK P _ ty [(x, .c (.one (.ks k.num (0 * w0) 0 n))), (y, qc D v)] (vh D ((k, KB.gro w0 N q) :: ks)) (.c (.one (.ks d.num (0 * w0) 0 (n + xs.length)))) [(k.num, none), (d.num, some (groB w0 (flat D (Sq.toL .und Q' 0 (n + xs.length)))))] d.num
                rw [hQ2.2, Aq];intro dst pos after guard a w H β K Q h1 h2 h3 h4 h5 hK;obtain ⟨e1, e2, e3⟩ := X2 (B := groB w0 (flat D (Sq.toL .und q 0 n) ++ flat D xs)) (kin := vh D ((k, KB.gro w0 N q) :: ks)) (k := k.num) (by simp [vh, look]) (L9 (D := D) hks hd);rw [e1, e2, e3] at hK;have hβd := h5 (by rw [e2]; simp);obtain ⟨hrep, hown⟩ := h2 (k.num, (KB.gro w0 N q).blk D) (by simp [vh])
                obtain ⟨arrx, b1, b2, b3⟩ := a4 w H β _ (h1 (y, qc D v) (by simp)) (λp hp => (h2 p (by
                  obtain ⟨q, hq, rfl⟩ := List.mem_map.1 hp
                  exact List.mem_map.2 ⟨q, q5e _ hq, rfl⟩)).1)
                obtain ⟨bb, c', hβ, hle, hxe⟩ := h1 (x, .c (.one (.ks k.num (0 * w0) 0 n))) (by simp);simp only [q5Y, Nat.sub_zero] at hxe hβ hle;obtain ⟨arr, T, g1, g2, g3, g4⟩ := PM (D := D) hbo.2 h0 hβ hrep;have hNw : n * w0 <= N * w0 := q5O _ hn
                have hso : Sats β H (flat D (Sq.toL .und q 0 n)) (arr.toList.take (n * w0)) := by
                  have := g4.take (n * w0);rw [Fq hbo.2 n (by rw [Sq.toL_len]; exact hn), hcut, q5q, q5G hNw] at this;exact this
                have hstr : ∀ a ∈ flat D (Sq.toL .und q 0 n) ++ flat D xs, AStr a := λa hq => by rcases q5c.1 hq with hq | hq; exact Ar _ _ hq; exact Ar _ _ hq
                have hne2 : flat D (Sq.toL .und q 0 n) ++ flat D xs ≠ [] := by
                  have := Qf (D := D) a2 hs hne;simp [this]
                by_cases hroom : n + xs.length <= c'
                · have hfit : n * w0 + xs.length * w0 <= arr.size := by rw [g2, <- q5s]; exact q5O _ hroom
                  obtain ⟨w', r1, r2⟩ := Mv (P := P) (ty := ty) (dst := dst) (pos := pos) (after := after) (guard := guard) b3 hxe hroom g1 (Sats.oneC b1) b2 (by omega);rw [q5W] at r2;unfold Oper.wp;rw [r1];have hst2 := Step.setArr r2 hβ (hown _ _ hβ).1 h4;refine hK _ w' H (β.set d.num (some (bb, c'))) ⟨hst2.os, hst2.tape, hst2.output, hst2.size, λb' hb' hk' => hst2.keep b' hb' hk', Heap.Le.refl _, λb' hb' => .inl hb', hst2.hon, λq hq => Bm.set_other _ _ (by simpa using hq), λq hq b' c' hb' => ?_, λq hq q' hq' hne => ?_⟩ ⟨_, _, Bm.set_same _ _ _, by omega, by simp⟩ ?_
                  · have : q = d.num := by simpa using hq
                    subst this; rw [Bm.set_same] at hb'; cases hb'
                    exact ⟨(hown _ _ hβ).1, .inr ⟨k.num, by simp, _, hβ⟩⟩
                  · have e1 : q = d.num := by simpa using hq
                    have e2 : q' = d.num := by simpa using hq'
                    exact absurd (e1.trans e2.symm) hne
                  · intro q' bb' hqb
                    simp only [q5d, q62, reduceCtorEq, and_false, q61, q5l, or_false, false_or] at hqb;obtain ⟨rfl, rfl⟩ := hqb
                    have hg : groB w0 (flat D (Sq.toL .und q 0 n) ++ flat D xs) = .grow w0 (flat D (Sq.toL .und q 0 n) ++ flat D xs) := by
                      cases hcs : flat D (Sq.toL .und q 0 n) ++ flat D xs with
                      | nil => exact absurd hcs hne2
                      | cons a l => rfl
                    rw [hg];have hlx : arrx.toList.length = xs.length * w0 := by simpa using b2
                    have hlo : (flat D (Sq.toL .und q 0 n)).length = n * w0 := by rw [jK hLo, Sq.toL_len]
                    have hszspl : (spl arr.toList (n * w0) arrx.toList).length = arr.size := by unfold spl; simp; simp at hlx; omega
                    have hll : (flat D (Sq.toL .und q 0 n) ++ flat D xs).length = n * w0 + xs.length * w0 := by rw [q55, hlo, jK a2]
                    refine .inr ⟨bb, c', _, T, Bm.set_same _ _ _, r2.at_, by simp [hszspl, g2], by simp only [List.size_toArray, hszspl, hll]; exact hfit, ?_⟩;rw [hll];show Sats _ _ _ ((spl arr.toList (n * w0) arrx.toList).take _)
                    have : (spl arr.toList (n * w0) arrx.toList).take (n * w0 + xs.length * w0) = arr.toList.take (n * w0) ++ arrx.toList := by
                      unfold spl;rw [<- q4R, List.take_left' (by simp; simp at hlx; omega)]
                    rw [this];have hall := Sats.append hso b1;refine Sats.congr (Heap.Le.refl _) (λq' hq' => Bm.set_other _ _ λe => ?_) hall;subst e;exact absurd hβd (Sats.str hstr hall hq')
                · obtain ⟨c, w', r1, r2, r3, r4⟩ := Pn (P := P) (ty := ty) (dst := dst) (pos := pos) (after := after) (guard := guard) (arro := (arr.toList.take (n * w0)).toArray) b3 hxe hroom c5 b2 (by simp; omega)
                    (λw' hw' => by
                      have := Tw (P := P) (s := w0) (j := n) (n := n) (c := c') (off := 0) (w := w') (by rw [hw']; exact g1) (by omega)
                      simpa using this) (by simpa using hso) b1 hstr hβd h4 hne2
                  unfold Oper.wp;rw [r1];refine hK _ w' H _ (Step.weak r3 (by simp) (by simp)) ⟨_, _, Bm.set_same _ _ _, by omega, by simp⟩ ?_;intro q' bb' hqb;simp only [q5d, q62, reduceCtorEq, and_false, q61, q5l, or_false, false_or] at hqb;obtain ⟨rfl, rfl⟩ := hqb;exact r4
      · exact kbad
    · exact kbad
theorem Hy{ts tx:TypeId}{x y:Operand}{u v:V}:jj D P (.call {callee:= .builtin .append,args:= #[x,y],argTypes:= #[ts,tx]}) ty [x,y] [u,v] m d (DK P ts tx m u v d):=by
 unfold DK;split
 .rename_i s b hb
  cases hc:Nat.blt 0 s&&Nat.blt 0 b&&zOk P ts s&&isNo (mget m d)with
  |false=>exact kbad
  |true=>
   simp only[q4L]at hc;obtain⟨⟨⟨c1,c2⟩,c3⟩,c4⟩:=hc;have c1:0<s:=by simpa using c1
   have c2:0<b:=by simpa using c2
   simp only;split
   .rename_i xs ks hsrc
    exact YB c1 c2 (Zt c4) λhm=>P1 hb c1 c2 c3 hsrc hm
   .exact kbad
 .exact kbad
end
end
noncomputable section
section
variable {D:List Int} {P:Program} {m:qM} {d:Key} {ty:TypeId}
theorem XB{a b:List Nat}(ha: ∀x∈a,x<256)(hb: ∀x∈b,x<256)(h:strV a=strV b):a=b:=by
 unfold strV at h;simp only[Value.string.injEq,ByteArray.mk.injEq]at h;have h:=congrArg Array.toList h;simp only at h
 have key: ∀l:List Nat,(∀x∈l,x<256)->(l.map UInt8.ofNat).map UInt8.toNat=l:=by
  intro l hl;rw[List.map_map]
  conv=>rhs;rw[<-List.map_id l]
  refine List.map_congr_left λx hx=>?_
  have:=hl x hx;simp[q5H this]
 rw[<-key a ha,<-key b hb];exact congrArg _ h
theorem q1D{kt:TypeId}(hk:P.underlying kt=some .string){s:List Nat}(hs:s.length<=1000000): ∃l,keyOf P kt (strV s)=some l:=by
 refine⟨_,Go.WideMaps.keyOf_string_mk hk ?_⟩;have e1:(⟨(s.map UInt8.ofNat).toArray⟩:ByteArray).size=s.length:=by show(s.map UInt8.ofNat).toArray.size=_;simp
 rw[e1];have:maxLen=9223372036854775807:=by decide
 omega
theorem zw{v:V}(h:kInt v): ∃z:Int,v=ofI .i64 z/\z.natAbs<=4611686018427387904/\v.on=true/\v.a1 D= .val (.int .i64 z):=by
 unfold kInt at h;split at h
 .rename_i n;exact⟨(n:Int),rfl,by simpa using h,rfl,rfl⟩
 .rename_i n;exact⟨Int.negSucc n,rfl,by show n+1<=_;omega,rfl,rfl⟩
 .exact h.elim
theorem GC{k:V}(h:kOk 0 k): ∃a b:V,k= .ag 2 [a,b]/\kInt a/\kInt b:=by
 unfold kOk at h;split at h
 .first|(rename_i e;exact absurd e (by decide))|(rename_i e _;exact absurd e (by decide))|(rename_i e _ _;exact absurd e (by decide))
 .exact⟨_,_,rfl,h.1,h.2⟩
 .first|(rename_i e;exact absurd e (by decide))|(rename_i e _;exact absurd e (by decide))|(rename_i e _ _;exact absurd e (by decide))
 .exact h.elim
theorem GF{k:V}(h:kOk 1 k): ∃l,k= .st l/\(∀b∈l,b<256)/\l.length<=1000000:=by
 unfold kOk at h;split at h
 .exact⟨_,rfl,h⟩
 .first|(rename_i e;exact absurd e (by decide))|(rename_i e _;exact absurd e (by decide))|(rename_i e _ _;exact absurd e (by decide))
 .first|(rename_i e;exact absurd e (by decide))|(rename_i e _;exact absurd e (by decide))|(rename_i e _ _;exact absurd e (by decide))
 .exact h.elim
theorem GD{k:V}(h:kOk 2 k):kInt k:=by
 unfold kOk at h;split at h
 .first|(rename_i e;exact absurd e (by decide))|(rename_i e _;exact absurd e (by decide))|(rename_i e _ _;exact absurd e (by decide))
 .first|(rename_i e;exact absurd e (by decide))|(rename_i e _;exact absurd e (by decide))|(rename_i e _ _;exact absurd e (by decide))
 .exact h
 .exact h.elim
theorem GB{s:Nat}{k:V}(h:kOk s k):s=0\/s=1\/s=2:=by
 unfold kOk at h;split at h
 .exact .inr (.inl rfl)
 .exact .inl rfl
 .exact .inr (.inr rfl)
 .exact h.elim
theorem EP(a b:Int):valD (.ag 2 [ofI .i64 a,ofI .i64 b])=keyV (a,b):=by
 cases a<;>cases b<;>rfl
theorem EO(a:Int):valD (ofI .i64 a)= .int .i64 a:=by cases a<;>rfl
theorem q1x{x:Int}(h:x.natAbs<=4611686018427387904):(Lit.int .i64 x).wf=true:=by
 have e1:IntKind.i64.min= -9223372036854775808:=by decide
 have e2:IntKind.i64.max=9223372036854775807:=by decide
 show(decide (IntKind.i64.min<=x)&&decide (x<=IntKind.i64.max))=true;rw[e1,e2,q4L];exact⟨decide_eq_true (by omega),decide_eq_true (by omega)⟩
structure MS (P:Program) (t kt e:TypeId) (s:Nat):Prop where
 hm:P.underlying t=some (.map kt e)
 K:Go.Maps.Keyed P kt
 key: ∀k,kOk s k-> ∃l,keyOf P kt (valD k)=some l
theorem FF{t e:TypeId}{s:Nat}(h:mapS P t=some (s,e)): ∃kt,MS P t kt e s:=by
 unfold mapS at h;split at h
 .rename_i kt et h1
  split at h
  .rename_i h2
   cases h;refine⟨kt,h1,Go.Maps.string_keyed h2,λk hk=>?_⟩;obtain⟨l,rfl,_,h4⟩:=GF hk;exact q1D h2 h4
  .rename_i ki h2
   cases hc:keq ki .i64 with
   |false=>rw[hc]at h;cases h
   |true=>
    rw[hc]at h;cases h
    have a1:=zR hc;subst a1;refine⟨kt,h1,Go.Maps.int_keyed h2,λk hk=>?_⟩;obtain⟨x,rfl,hx,_⟩:=zw (D:=[]) (GD hk);rw[EO];exact⟨_,Go.Maps.keyOf_int_mk h2 (q1x hx)⟩
  .rename_i n e' h2
   split at h
   .rename_i ki h3
    cases hc:(keq ki .i64&&(Nat.beq n 2&&(Nat.beq (P.cellsOf e') 1&&(Nat.beq (P.cellsOf kt) 2&&Nat.blt 0 P.types.size))))with
    |false=>rw[hc]at h;cases h
    |true=>
     rw[hc]at h;cases h
     simp only[q4L]at hc;obtain⟨a1,a4,a5,a6,a7⟩:=hc;have a1:=zR a1;have a4:=q5w a4
     subst a1;subst a4
     have T:MapT P t kt e' _:=⟨h1,⟨h2,by simp[Program.plainKey,h3],q5w a5,q5w a6⟩,h3,⟨P.types.size-1,by have:=q5y a7;omega⟩⟩;refine⟨kt,h1,Go.Maps.Keyed.of_law T.A.law,λk hk=>?_⟩;obtain⟨a,b,rfl,ha,hb⟩:=GC hk;obtain⟨x,rfl,hx,_⟩:=zw (D:=[]) ha;obtain⟨y,rfl,hy,_⟩:=zw (D:=[]) hb;rw[EP];exact q1C T hx hy
   .cases h
  .cases h
 .cases h
theorem Nt{s:Nat}{a b:V}(ha:kOk s a)(hb:kOk s b)(h:valD a=valD b):a=b:=by
 rcases GB ha with rfl|rfl|rfl
 rotate_left
 .obtain⟨l,rfl,h1,_⟩:=GF ha
  obtain⟨l',rfl,h2,_⟩:=GF hb;rw[XB h1 h2 h]
 .obtain⟨x,rfl,_⟩:=zw (D:=[]) (GD ha)
  obtain⟨y,rfl,_⟩:=zw (D:=[]) (GD hb);rw[EO,EO]at h;injection h with _ h
  rw[h]
 .obtain⟨x,y,rfl,hx,hy⟩:=GC ha
  obtain⟨x',y',rfl,hx',hy'⟩:=GC hb;obtain⟨x,rfl,_⟩:=zw (D:=[]) hx;obtain⟨y,rfl,_⟩:=zw (D:=[]) hy;obtain⟨x',rfl,_⟩:=zw (D:=[]) hx';obtain⟨y',rfl,_⟩:=zw (D:=[]) hy';rw[EP,EP]at h;have:=WN h;cases this;rfl
theorem IJ{a b:V}(ha:kInt a)(hb:kInt b):iB a b=true↔a=b:=by
 unfold kInt at ha hb;split at ha
 .split at hb
  .simp[iB]
  .simp[iB]
  .exact hb.elim
 .split at hb
  .simp[iB]
  .simp[iB]
  .exact hb.elim
 .exact ha.elim
theorem wV{s:Nat}{a b:V}(ha:kOk s a)(hb:kOk s b):kyB a b=true↔a=b:=by
 rcases GB ha with rfl|rfl|rfl
 rotate_left
 .obtain⟨l,rfl,h1,_⟩:=GF ha
  obtain⟨l',rfl,h2,_⟩:=GF hb;show beqN l l'=true↔_;rw[Ed];simp
 .have h1:=GD ha
  have h2:=GD hb;rw[<-IJ h1 h2];cases a<;>first|exact h1.elim|exact Iff.rfl
 .obtain⟨x,y,rfl,hx,hy⟩:=GC ha
  obtain⟨x',y',rfl,hx',hy'⟩:=GC hb;show @Bool.rec (λ_=>Bool) false (iB y y') (iB x x')=true↔_
  cases hq:iB x x' with
  |false=>
   have:x≠x':=λe=>by rw[(IJ hx hx').2 e]at hq;cases hq
   simp[this]
  |true=>
   have e:=(IJ hx hx').1 hq;show iB y y'=true↔_;rw[IJ hy hy'];simp[e]
theorem wT{s:Nat}{k:V}(h:kOkB s k=true)(hk:k.ok):kOk s k:=by
 unfold kOkB at h;split at h
 .rename_i l
  cases hs:Nat.beq s 1 with
  |false=>rw[hs]at h;cases h
  |true=>
   rw[hs]at h;rw[q5w hs];exact⟨hk,by rw[<-K3];exact q5y h⟩
 .rename_i w a b
  cases hs:Nat.beq s 0 with
  |false=>rw[hs]at h;cases h
  |true=>
   rw[hs]at h;rw[q5w hs];have h:(Nat.beq w 2&&(intB a&&intB b))=true:=h;simp only[q4L]at h;obtain⟨h1,h2,h3⟩:=h;have h1:=q5w h1;subst h1
   have: ∀v,intB v=true->kInt v:=λv hv=>by
    unfold intB at hv;split at hv
    .exact q5y hv
    .exact q5y hv
    .cases hv
   exact⟨this a h2,this b h3⟩
 .rename_i h1 h2
  cases hs:Nat.beq s 2 with
  |false=>rw[hs]at h;cases h
  |true=>
   rw[hs]at h;rw[q5w hs];have h:intB k=true:=h
   have h3:kInt k:=by
    unfold intB at h;split at h
    .exact q5y h
    .exact q5y h
    .cases h
   cases k<;>first|exact h3.elim|exact h3
theorem JY{s:Nat}{k:V}(h:kOk s k){β:Bm}{H:Heap}{x:Value}(hx:(qc D k).sat β H x):x=valD k:=by
 rcases GB h with rfl|rfl|rfl
 rotate_left
 .obtain⟨l,rfl,_⟩:=GF h
  exact hx.1
 .obtain⟨a,rfl,_,a1,a2⟩:=zw (D:=D) (GD h)
  rw[EO]
  have hx:((ofI .i64 a).cmp D).sat β H x:=by
   rw[zA (V.on_okC a1|>.2 (by cases a<;>trivial))]at hx;exact hx
  rw[V.on_cmp a1,a2]at hx;exact hx.1
 .obtain⟨a,b,rfl,ha,hb⟩:=GC h
  obtain⟨a,rfl,_,a1,a2⟩:=zw (D:=D) ha;obtain⟨b,rfl,_,b1,b2⟩:=zw (D:=D) hb;obtain⟨⟨us⟩,rfl,hs⟩:=(show∃arr:Array Value,x= .agg arr/\Sats β H (cs D [ofI .i64 a,ofI .i64 b]) arr.toList from hx);rw[vE,vE,V.on_c1 a1,V.on_c1 b1,a2,b2]at hs;rw[EP]
  match us,hs with
  |[u,v],⟨h1,h2,_⟩=>rw[h1.1,h2.1];rfl
  |[],h=>exact h.elim
  |[_],⟨_,h⟩=>exact h.elim
  |_::_::_::_,⟨_,_,h⟩=>exact h.elim
abbrev jt(l:List (V×V))(vs:List Value):List (Value×Value):=List.zip ((l.map λp=>(valD p.1,p.2.cmp D)).map (·.1)) vs
theorem vF(l:List (V×V)):(l.map λp=>(valD p.1,p.2.cmp D)).map (·.1)=l.map λp=>valD p.1:=by rw[List.map_map];rfl
theorem Ap(l:List (V×V)):(l.map λp=>(valD p.1,p.2.cmp D)).map (·.2)=l.map λp=>p.2.cmp D:=by rw[List.map_map];rfl
theorem Gr{l:List (V×V)}{vs:List Value}{j:Nat}{e:MapEntry}(h:(ju 0 (jt (D:=D) l vs))[j]?=some e): ∃p v,l[j]?=some p/\vs[j]?=some v/\e=⟨valD p.1,v,0+j⟩:=by
 rw[Hu]at h
 cases hz:(jt (D:=D) l vs)[j]? with
 |none=>rw[hz]at h;cases h
 |some q=>
  rw[hz]at h;simp only[q60,q61]at h;subst h;obtain⟨h1,h2⟩:=List.getElem?_zip_eq_some.1 hz;rw[vF,List.getElem?_map]at h1
  cases hp:l[j]? with
  |none=>rw[hp]at h1;cases h1
  |some p=>
   rw[hp]at h1;simp only[q60,q61]at h1;exact⟨p,q.2,rfl,h2,by rw[h1]⟩
theorem Iy{l:List (V×V)}{vs:List Value}{j:Nat}{p:V×V}{v:Value}(h1:l[j]?=some p)(h2:vs[j]?=some v):(ju 0 (jt (D:=D) l vs))[j]?=some ⟨valD p.1,v,0+j⟩:=by
 rw[Hu];have:(jt (D:=D) l vs)[j]?=some (valD p.1,v):=List.getElem?_zip_eq_some.2 ⟨by rw[vF,List.getElem?_map,h1];rfl,h2⟩;rw[this];rfl
theorem RI{s:Nat}{t kt e:TypeId}(M:MS P t kt e s){l:List (V×V)}{vs:List Value}(h:(KB.mp s l).ok): ∀x∈ju 0 (jt (D:=D) l vs),∃y,keyOf P kt x.key=some y:=by
 intro x hx;obtain⟨j,hj⟩:=List.getElem?_of_mem hx;obtain⟨p,v,h1,h2,rfl⟩:=Gr hj;exact M.key _ (h.2 p (q5h h1)).1
theorem Lc{s:Nat}{k:V}(hk:kOk s k): ∀{l:List (V×V)}{j:Nat}{p:V×V},(KB.mp s l).ok->l[j]?=some p->p.1=k->AO l k=some p.2
 |[],j,p,_,h,_=>by cases h
 |q::l,j,p,ho,h,e=>by
  have hq:=(ho.2 q q5f).1;have ho':(KB.mp s l).ok:=⟨(List.nodup_cons.1 ho.1).2,λp hp=>ho.2 p (q5e _ hp)⟩;show @Bool.rec (λ_=>Option V) (AO l k) (some q.2) (kyB q.1 k)=_
  cases hb:kyB q.1 k with
  |true=>
   cases j with
   |zero=>simp at h;subst h;rfl
   |succ j=>
    exfalso;have h1:l[j]?=some p:=by simpa using h
    have hq2:=(wV hq hk).1 hb;exact(List.nodup_cons.1 ho.1).1 (by show q.1∈_;rw[hq2,<-e];exact List.mem_map.2 ⟨p,q5h h1,rfl⟩)
  |false=>
   cases j with
   |zero=>simp at h;subst h;rw[(wV hq hk).2 e]at hb;cases hb
   |succ j=>exact Lc hk ho' (by simpa using h) e
theorem Ld{s:Nat}{k:V}(hk:kOk s k): ∀{l:List (V×V)},(KB.mp s l).ok->(∀p∈l,p.1≠k)->AO l k=none
 |[],_,_=>rfl
 |q::l,ho,h=>by
  have hq:=(ho.2 q q5f).1;have ho':(KB.mp s l).ok:=⟨(List.nodup_cons.1 ho.1).2,λp hp=>ho.2 p (q5e _ hp)⟩;show @Bool.rec (λ_=>Option V) (AO l k) (some q.2) (kyB q.1 k)=_
  cases hb:kyB q.1 k with
  |true=>exact absurd ((wV hq hk).1 hb) (h q q5f)
  |false=>exact Ld hk ho' λp hp=>h p (q5e _ hp)
theorem IT{k v:V}: ∀{l:List (V×V)},AO l k=some v-> ∃p∈l,p.2=v
 |[],h=>by cases h
 |q::l,h=>by
  have h: @Bool.rec (λ_=>Option V) (AO l k) (some q.2) (kyB q.1 k)=some v:=h
  cases hq:kyB q.1 k with
  |true=>rw[hq]at h;cases h;exact⟨q,q5f,rfl⟩
  |false=>
   rw[hq]at h;obtain⟨p,h1,h2⟩:=IT h;exact⟨p,q5e _ h1,h2⟩
theorem CA{s:Nat}{k v:V}(hk:kOk s k): ∀{l:List (V×V)}{j:Nat}{p:V×V},(KB.mp s l).ok->l[j]?=some p->p.1=k->Ai l k v=l.set j (k,v)
 |[],j,p,_,h,_=>by cases h
 |q::l,j,p,ho,h,e=>by
  have hq:=(ho.2 q q5f).1;have ho':(KB.mp s l).ok:=⟨(List.nodup_cons.1 ho.1).2,λp hp=>ho.2 p (q5e _ hp)⟩;show @Bool.rec (λ_=>List (V×V)) (q::Ai l k v) ((k,v)::l) (kyB q.1 k)=_
  cases hb:kyB q.1 k with
  |true=>
   cases j with
   |zero=>rfl
   |succ j=>
    exfalso;have h1:l[j]?=some p:=by simpa using h
    have hq2:=(wV hq hk).1 hb;exact(List.nodup_cons.1 ho.1).1 (by show q.1∈_;rw[hq2,<-e];exact List.mem_map.2 ⟨p,q5h h1,rfl⟩)
  |false=>
   cases j with
   |zero=>simp at h;subst h;rw[(wV hq hk).2 e]at hb;cases hb
   |succ j=>rw[List.set_cons_succ,<-CA hk ho' (by simpa using h) e]
theorem CB{s:Nat}{k v:V}(hk:kOk s k): ∀{l:List (V×V)},(KB.mp s l).ok->(∀p∈l,p.1≠k)->Ai l k v=l++[(k,v)]
 |[],_,_=>rfl
 |q::l,ho,h=>by
  have hq:=(ho.2 q q5f).1;have ho':(KB.mp s l).ok:=⟨(List.nodup_cons.1 ho.1).2,λp hp=>ho.2 p (q5e _ hp)⟩;show @Bool.rec (λ_=>List (V×V)) (q::Ai l k v) ((k,v)::l) (kyB q.1 k)=_
  cases hb:kyB q.1 k with
  |true=>exact absurd ((wV hq hk).1 hb) (h q q5f)
  |false=>rw[List.cons_append,<-CB hk ho' λp hp=>h p (q5e _ hp)]
theorem HM{s:Nat}{k v:V}{l:List (V×V)}(h:(KB.mp s l).ok)(hk:kOk s k)(hv:v.okC):(KB.mp s (Ai l k v)).ok:=by
 rcases Classical.em (∃p∈l,p.1=k)with⟨p,hp,e⟩|hno
 .obtain⟨j,hj⟩:=List.getElem?_of_mem hp
  rw[CA hk h hj e]
  have hm:(l.set j (k,v)).map (·.1)=l.map (·.1):=by
   rw[List.map_set];apply List.ext_getElem?;intro i;rw[List.getElem?_set];by_cases hi:j=i
   .subst hi
    rw[if_pos rfl];obtain⟨hl,hp2⟩:=List.getElem?_eq_some_iff.1 hj;simp[hl,hp2,e]
   .rw[if_neg hi]
  refine⟨by rw[hm];exact h.1,λq hq=>?_⟩;rcases List.mem_or_eq_of_mem_set hq with hq|rfl
  .exact h.2 q hq
  .exact⟨hk,hv⟩
 .have hn: ∀p∈l,p.1≠k:=λp hp e=>hno ⟨p,hp,e⟩
  rw[CB hk h hn];refine⟨?_,λq hq=>?_⟩
  .rw[List.map_append,List.nodup_append]
   refine⟨h.1,by simp,λa ha b hb=>?_⟩;simp at hb;subst hb
   obtain⟨p,hp,rfl⟩:=List.mem_map.1 ha;exact hn p hp
  .rcases q5c.1 hq with hq|hq
   .exact h.2 q hq
   .simp at hq;subst hq;exact⟨hk,hv⟩
theorem q1g(E:List (Value×Value))(j n:Nat)(a b:Value):(ju n E).modify j (λe=>{e with key:=a,val:=b})=ju n (E.set j (a,b)):=by
 induction E generalizing j n with
 |nil=>cases j<;>rfl
 |cons p l ih=>cases j with
  |zero=>rfl
  |succ j=>simp only[ju,List.modify_succ_cons,List.set_cons_succ];rw[<-ih]
theorem KC{α β:Type}: ∀(l:List α)(r:List β)(j:Nat)(x:α)(y:β),List.zip (l.set j x) (r.set j y)=(List.zip l r).set j (x,y)
 |[],r,j,x,y=>by simp
 |a::l,[],j,x,y=>by simp
 |a::l,b::r,0,x,y=>rfl
 |a::l,b::r,j+1,x,y=>by simp only[List.set_cons_succ,List.zip_cons_cons,KC l r j x y]
theorem HY{β:Bm}{H:Heap}{c:Cmp}{v:Value}(hv:c.sat β H v): ∀{l:List Cmp}{vs:List Value}(j:Nat),CmpSats β H l vs->CmpSats β H (l.set j c) (vs.set j v)
 |[],[],_,_=>trivial
 |_::_,_::_,0,h=>⟨hv,h.2⟩
 |_::_,_::_,j+1,h=>⟨h.1,HY hv j h.2⟩
 |[],_::_,_,h=>h.elim
 |_::_,[],_,h=>h.elim
theorem G7{β:Bm}{H:Heap}{c:Cmp}{v:Value}(hv:c.sat β H v): ∀{l:List Cmp}{vs:List Value},CmpSats β H l vs->CmpSats β H (l++[c]) (vs++[v])
 |[],[],_=>⟨hv,trivial⟩
 |_::_,_::_,h=>⟨h.1,G7 hv h.2⟩
 |[],_::_,h=>h.elim
 |_::_,[],h=>h.elim
theorem Av{β:Bm}{H:Heap}: ∀{l:List Cmp}{vs:List Value},CmpSats β H l vs->l.length=vs.length
 |[],[],_=>rfl
 |_::_,_::_,h=>by simp[Av h.2]
 |[],_::_,h=>h.elim
 |_::_,[],h=>h.elim
section
variable {w:World} {b:Nat} {l:List (V×V)} {vs:List Value} {t kt e:TypeId} {s:Nat} {k:V}
theorem Ls (M : MS P t kt e s) (hb : w.heap[b]? = some (.map (ju 0 (jt (D := D) l vs)).toArray l.length)) (h : (KB.mp s l).ok) (hl : l.length = vs.length) (hk : kOk s k) (c : Bool) :
  (∀ v, AO l k = some v -> ∃ (j : Nat) (p : V × V) (zv : Value), l[j]? = some p /\ p.2 = v /\ vs[j]? = some zv /\ (Instr.lookup t (.map (some b)) (valD k) c).run P w = .ok (if c then .tuple #[zv, .bool true] else zv) w) /\
   (AO l k = none -> ∀ i z, P.info? e = some i -> i.zero = some z -> (Instr.lookup t (.map (some b)) (valD k) c).run P w = .ok (if c then .tuple #[z, .bool false] else z) w) := by
 obtain ⟨kl, hkl⟩ := M.key k hk;rcases M.K.find w hkl (ju 0 (jt (D := D) l vs)) (RI M h) with ⟨f1, f2⟩ | ⟨j, x, f1, f2, f3⟩
 .have hn : ∀ p ∈ l, p.1 ≠ k := λp hp e2 => by
   obtain ⟨j, hj⟩ := List.getElem?_of_mem hp;have hjl : j < vs.length := by rw [<- hl]; exact (List.getElem?_eq_some_iff.1 hj).1
   have := Iy (D := D) hj (q51 hjl);exact f2 _ (q5h this) (by rw [e2])
  refine ⟨λv hv => (by rw [Ld hk h hn] at hv; cases hv), λ_ i z hi hz => ?_⟩;simp [Instr.lookup, qd M.hm, MapKept.run_getObj_map hb, M.K.check w _ hkl, f1, jy hi hz, Result.andThen]
 .obtain ⟨p, zv, hp, hzv, rfl⟩ := Gr f2
  have e3 := Nt (h.2 p (q5h hp)).1 hk f3;have hf := Lc hk h hp e3;refine ⟨λv hv => ⟨j, p, zv, hp, by rw [hf] at hv; cases hv; rfl, hzv, ?_⟩, λhv => (by rw [hf] at hv; cases hv)⟩;simp [Instr.lookup, qd M.hm, MapKept.run_getObj_map hb, M.K.check w _ hkl, f1, Result.andThen]
theorem Sy{β:Bm}{H:Heap}{q:V}{qv:Value}(M:MS P t kt e s)(hb:w.heap[b]?=some (.map (ju 0 (jt (D:=D) l vs)).toArray l.length))(h:(KB.mp s l).ok)(hs:CmpSats β H (l.map λp=>p.2.cmp D) vs)(hk:kOk s k)(hq:(q.cmp D).sat β H qv):
  ∃vs',(Instr.mapUpdate t (.map (some b)) (valD k) qv).run P w= .ok () (ChangeMaps.setBlock w b (.map (ju 0 (jt (D:=D) (Ai l k q) vs')).toArray (Ai l k q).length))/\CmpSats β H ((Ai l k q).map λp=>p.2.cmp D) vs':=by
 have hl:l.length=vs.length:=by have:=Av hs;simpa using this
 obtain⟨kl,hkl⟩:=M.key k hk;rcases M.K.find w hkl (ju 0 (jt (D:=D) l vs)) (RI M h)with⟨f1,f2⟩|⟨j,x,f1,f2,f3⟩
 .have hn: ∀p∈l,p.1≠k:=λp hp e2=>by
   obtain⟨j,hj⟩:=List.getElem?_of_mem hp;have hjl:j<vs.length:=by rw[<-hl];exact(List.getElem?_eq_some_iff.1 hj).1
   have:=Iy (D:=D) hj (q51 hjl);exact f2 _ (q5h this) (by rw[e2])
  refine⟨vs++[qv],?_,?_⟩
  .have e4:jt (D:=D) (l++[(k,q)]) (vs++[qv])=jt (D:=D) l vs++[(valD k,qv)]:=by
    unfold jt;rw[vF,vF,List.map_append,List.zip_append (by simpa using hl)];rfl
   have e5:(jt (D:=D) l vs).length=l.length:=by unfold jt;rw[vF];simp[hl]
   rw[CB hk h hn,e4,Ht,e5];simp[Instr.mapUpdate,qd M.hm,MapKept.run_getObj_map hb,M.K.check w _ hkl,f1,MapKept.run_setObj_map _ hb,Result.andThen,ChangeMaps.setBlock]
  .rw[CB hk h hn,List.map_append];exact G7 hq hs
 .obtain⟨p,zv,hp,hzv,rfl⟩:=Gr f2
  have e3:=Nt (h.2 p (q5h hp)).1 hk f3;refine⟨vs.set j qv,?_,?_⟩
  .have e4:jt (D:=D) (l.set j (k,q)) (vs.set j qv)=(jt (D:=D) l vs).set j (valD k,qv):=by
    unfold jt;rw[vF,vF,List.map_set,KC]
   rw[CA hk h hp e3,e4,<-q1g,List.length_set];subst e3;simp[Instr.mapUpdate,qd M.hm,MapKept.run_getObj_map hb,M.K.check w _ hkl,f1,f2,M.K.stays w hkl,MapKept.run_setObj_map _ hb,Result.andThen,ChangeMaps.setBlock]
  .rw[CA hk h hp e3,List.map_set];exact HY hq j hs
end
theorem Pd{t ty:TypeId}{d:Nat}:OpOk P (.makeMap t none) ty [] [] (.c (.one (.mp d))) [(d,some (.mc []))]:=by
 intro dst pos after guard a w H β K Q h1 h2 h3 h4 hK;refine S5 dst pos after guard a w H β K Q h1 h2 h3 h4 λv w' H' β' hst hv hL=>hK v w' H' β' hst hv λk b hb=>?_
 simp only[q5j,q62,q61]at hb;obtain⟨rfl,rfl⟩:=hb;obtain⟨b0,c0,h5,h6⟩:=hL k (.mp []) (by simp);exact⟨b0,c0,[],h5,h6,trivial⟩
theorem TM{t:TypeId}:jj D P (.makeMap t none) ty [] [] m d (B8 P t d):=by
 unfold B8;split
 .intro _ _ _
  refine⟨λv hv=>by simp at hv,λp hp=>by simp[KR.ks]at hp,opk Pd,trivial,by simp[KR.res],⟨by simp,λp hp=>by simp at hp⟩⟩
 .exact kbad
theorem WI{t:TypeId}{c:Bool}{x y:Operand}{u v:V}:jj D P (.lookup t x y c) ty [x,y] [u,v] m d (vn P m t c u v):=by
 unfold vn;split
 .rename_i k
  split
  .rename_i s l s' e hb ht
   cases hc:(Nat.beq s s'&&kOkB s v)with
   |false=>exact kbad
   |true=>
    rw[q4L]at hc;obtain⟨c1,c2⟩:=hc;have c1:=q5w c1;subst c1;obtain⟨kt,M⟩:=FF ht
    --what is common
    have main: ∀(z:V)(bb:Bool),z.okC->(v.ok->(KB.mp s l).ok-> ∀(w:World)(H:Heap)(β:Bm)(b:Nat)(vs:List Value),w.heap[b]?=some (.map (ju 0 (jt (D:=D) l vs)).toArray l.length)->CmpSats β H (l.map λp=>p.2.cmp D) vs->
       ∃zv,(z.cmp D).sat β H zv/\(Instr.lookup t (.map (some b)) (valD v) c).run P w= .ok (if c then .tuple #[zv,.bool bb]else zv) w)->
      jj D P (.lookup t x y c) ty [x,y] [.mm k,v] m d (.val (lkV c z bb) [(k,.mp s l)]):=by
     intro z bb hzc hrun hr hv hmm;have hvo:=hv v (by simp);have hkk:=wT c2 hvo;refine⟨λq hq=>?_,λp hp=>(by simp[KR.ks]at hp;subst hp;exact hb),opk ?_,?_,?_,trivial⟩
     .simp at hq;rcases hq with rfl|rfl
      .simp
      .intro e;subst e;(rcases GB hkk with rfl|rfl|rfl<;>exact hkk.elim)
     .show OpOk P (.lookup t x y c) ty [(x,qc D (.mm k)),(y,qc D v)] [(k.num,(KB.mp s l).blk D)] (qc D (lkV c z bb)) []
      refine qk λa w H β hins hkin _=>?_
      obtain⟨b,c',hβ,hx⟩:=hins _ q5f;obtain⟨b',c'',vs,hβ',hbk,hss⟩:=hkin _ q5f;have hy:=JY hkk (hins (y,qc D v) (by simp));simp only at hβ hx hβ' hy;rw[hβ]at hβ';cases hβ'
      rw[q58]at hbk;rw[Ap]at hss;obtain⟨zv,hz,hrn⟩:=hrun hvo (hmm k _ hb) w H β b vs hbk hss
      cases c with
      |true=>
       refine⟨.tuple #[zv,.bool bb],?_,λ_ _ _ _=>?_⟩
       .show(AV.tup [z.cmp D,V.cmp D (.bb bb)]).sat β H _
        exact⟨_,rfl,hz,⟨rfl,rfl⟩,trivial⟩
       .simp only[execOp,hx,hy,q64,hrn,q63,q65,if_true]
      |false=>
       refine⟨zv,?_,λ_ _ _ _=>?_⟩
       .show(qc D z).sat β H _
        rw[zA hzc];exact hz
       .simp only[execOp,hx,hy,q64,hrn,q63,q65,q4M,if_false]
     .cases c with
      |true=>intro q hq;simp[KR.res,lkV]at hq;rcases hq with rfl|rfl;exact hzc;trivial
      |false=>exact V.okC_ok hzc
     .cases c with
      |true=>simp[KR.res,lkV]
      |false=>exact vO hzc
    simp only;split
    .rename_i q hf
     intro hr hv hmm;have hbo:(KB.mp s l).ok:=hmm k _ hb;obtain⟨p,hp,hpv⟩:=IT hf;have hqc:q.okC:=by rw[<-hpv];exact(hbo.2 p hp).2
     refine main q true hqc (λhvo h w H β b vs hbk hss=>?_) hr hv hmm;have hl:l.length=vs.length:=by have:=Av hss;simpa using this
     obtain⟨j,p2,zv,g1,g2,g3,g4⟩:=(Ls (D:=D) M hbk h hl (wT c2 hvo) c).1 q hf;refine⟨zv,?_,g4⟩;obtain⟨v2,g5,g6⟩:=CmpSats.get j (a:=q.cmp D) hss (by rw[List.getElem?_map,g1];simp[g2]);rw[g3]at g5;cases g5;exact g6
    .rename_i hf
     cases hz:isU (zeroV P e)with
     |true=>exact kbad
     |false=>
      obtain⟨ti,z,hi,hzz,ez,hzo,hzs⟩:=B0 (D:=D) (t:=e) (P:=P) (vU hz);rw[<-ez]at hzo hzs;refine main _ false hzo (λhvo h w H β b vs hbk hss=>?_);have hl:l.length=vs.length:=by have:=Av hss;simpa using this
      exact⟨z,hzs β H,(Ls (D:=D) M hbk h hl (wT c2 hvo) c).2 hf ti z hi hzz⟩
  .exact kbad
 .exact kbad
theorem Zn{t:TypeId}{x y z:Operand}{u v q:V}:jj D P (.mapUpdate t x y z) ty [x,y,z] [u,v,q] m d (DL P m t u v q):=by
 unfold DL;split
 .rename_i k
  split
  .rename_i s l s' e hb ht
   cases hc:(isC q&&(Nat.beq s s'&&kOkB s v))with
   |false=>exact kbad
   |true=>
    simp only[q4L]at hc;obtain⟨c0,c1,c2⟩:=hc;have c1:=q5w c1;subst c1;obtain⟨kt,M⟩:=FF ht;intro hr hv hmm;have hvo:=hv v (by simp);have hkk:=wT c2 hvo;have hqo:q.okC:=A5 c0 (hv q (by simp));have hbo:(KB.mp s l).ok:=hmm k _ hb;refine⟨λp hp=>?_,λp hp=>(by simp[KR.ks]at hp;subst hp;exact hb),opk ?_,λu hu=>(by simp[KR.res]at hu),by simp[KR.res],HM hbo hkk hqo,⟨_,by simp[KR.ks];rfl⟩⟩
    .simp at hp;rcases hp with rfl|rfl|rfl
     .simp
     .intro e;subst e;(rcases GB hkk with rfl|rfl|rfl<;>exact hkk.elim)
     .exact vO hqo
    .show OpOk P (.mapUpdate t x y z) ty [(x,qc D (.mm k)),(y,qc D v),(z,qc D q)] [(k.num,(KB.mp s l).blk D)] AY [(k.num,some ((KB.mp s (Ai l v q)).blk D))]
     intro dst pos after guard a w H β K Q hins hkin _ hon hK;obtain⟨b,c,hβ,hx⟩:=hins _ q5f;obtain⟨⟨b',c',vs,hβ',hbk,hss⟩,hown⟩:=hkin _ q5f;simp only at hβ hx hβ' hown;rw[hβ]at hβ';cases hβ'
     rw[q58]at hbk;rw[Ap]at hss;have hy:=JY hkk (hins (y,qc D v) (by simp));have hz:=hins (z,qc D q) (by simp);simp only at hy hz;rw[zA hqo]at hz;obtain⟨vs',hrn,hss'⟩:=Sy (D:=D) M hbk hbo hss hkk hz;unfold Oper.wp
     have hrun:(execOp a.eval ⟨dst,.mapUpdate t x y z,ty,pos,after,guard⟩).run P w= .ok .skip (ChangeMaps.setBlock w b (.map (ju 0 (jt (D:=D) (Ai l v q) vs')).toArray (Ai l v q).length)):=by
      simp only[execOp,hx,hy,q64,hrn,q63,q65]
     rw[hrun];have hlt:=(hown b c hβ).2;refine hK undef _ H β ?_ (AH _ _) ?_
     .simpa[kwOf,qu,jk,look]using Step.setMap hlt hβ (hown b c hβ).1 hon
     .intro k' b' hb'
      simp only[q5j,q62,q61]at hb';obtain⟨rfl,rfl⟩:=hb';refine⟨b,c,vs',hβ,?_,by rw[Ap];exact hss'⟩;have hset: ∀o,(ChangeMaps.setBlock w b o).heap[b]?=some o:=λo=>by simp[ChangeMaps.setBlock,hlt]
      rw[q58];exact hset _
  .exact kbad
 .exact kbad
theorem Fh: ∀{xs:List V}{l:List Nat},Gj xs=some l->xs=l.map (λn=> .nn .u8 n)/\ ∀n∈l,n<256
 |[],l,h=>by cases h;exact⟨rfl,λn hn=>by simp at hn⟩
 |x::r,l,h=>by
  unfold Gj at h;split at h
  .rename_i h1;cases h1
  .rename_i n r' e
   cases e;split at h
   .rename_i l' hl
    cases hn:Nat.blt n 256 with
    |false=>rw[hn]at h;cases h
    |true=>
     rw[hn]at h;cases h
     obtain⟨e1,e2⟩:=Fh hl;have hn:n<256:=by simpa using hn
     refine⟨by rw[e1];rfl,λz hz=>?_⟩;rcases q5d.1 hz with rfl|hz
     .exact hn
     .exact e2 z hz
   .cases h
  .cases h
theorem Zh{s t:TypeId}{x:Operand}{v:V}:jj D P (.convert s t x) ty [x] [v] m d (No P m s t v):=by
 unfold No
 cases hc:u8E P s&&EB P t with
 |false=>exact kbad
 |true=>
  rw[q4L]at hc
  obtain⟨e,he,he2⟩: ∃e,P.underlying s=some (.slice e)/\P.underlying e=some (.int .u8):=by
   have:=hc.1;unfold u8E at this;split at this
   .rename_i e he;split at this
    .rename_i he2;exact⟨e,he,he2⟩
    .cases this
   .cases this
  have ht:P.underlying t=some .string:=by
   have:=hc.2;unfold EB at this;split at this
   .assumption
   .cases this
  simp only;split
  .rename_i xs ks hsrc
   split
   .rename_i l hl
    obtain⟨e1,e2⟩:=Fh hl;intro hr hv hm;obtain⟨a1,a2,a3,a4⟩:=BH (D:=D) (P:=P) hsrc hm;refine⟨λq hq=>(by simp at hq;subst hq;intro e;subst e;cases a1),a3,opk ?_,e2,by simp[KR.res],trivial⟩;show OpOk P (.convert s t x) ty [(x,qc D v)] (vh D ks) (qc D (.st l)) [];refine qk λa w H β hins hkin _=>?_
    have hx:=hins _ q5f;simp only at hx;obtain⟨b1,b2⟩:=a4 w H β _ hx hkin;obtain⟨arrx,c1,c2,c3⟩:=b2 xs.length (q5B _);rw[q5n,e1]at c1
    have harr:arrx.toList=l.map λ(n:Nat)=>Value.int .u8 (n:Int):=by
     have: ∀(l:List Nat)(vs:List Value),Sats β H (flat D (l.map λn=>V.nn .u8 n)) vs->vs=l.map λ(n:Nat)=>Value.int .u8 (n:Int):=by
      intro l
      induction l with
      |nil=>intro vs h;cases vs with|nil=>rfl|cons _ _=>exact h.elim
      |cons n l ih=>intro vs h;cases vs with
       |nil=>exact h.elim
       |cons v vs=>rw[q5b,<-ih vs h.2];congr 1;exact h.1.1
     exact this l _ c1
    refine⟨strV l,⟨rfl,rfl⟩,λ_ _ _ _=>?_⟩
    have hsl: ∃b n c,a.eval x= .slice b n c:=by
     have hs:=hsrc;unfold srcL at hs;split at hs
     .exact⟨_,_,_,hx.1⟩
     .obtain⟨b,c,_,h⟩:=hx;exact⟨_,_,_,h⟩
     .obtain⟨b,c,_,_,h⟩:=hx;exact⟨_,_,_,h⟩
     .obtain⟨b,c,h⟩:=hx;exact⟨_,_,_,h⟩
     .cases hs
    have hconv:(convert s t (a.eval x)).run P w= .ok (strV l) w:=by
     cases hev:a.eval x with
     |slice base n cap=>
      rw[hev]at b1 c3;have hn:n=xs.length:=by simpa[Builtin.lenOf]using b1
      rw[run_convert_bytes_string w s t e base n cap he he2 ht];have hf:=c3 w rfl
      cases base with
      |none=>
       have h0:arrx= #[]:=by simpa[Builtin.firstCells]using hf.symm
       rw[h0]at harr;have:l=[]:=by cases l with|nil=>rfl|cons _ _=>simp at harr
       subst this;simp[Conv.bytesToString,strV];rfl
      |some p=>
       have hf:(loadCells p n).run P w= .ok ((l.map λ(n:Nat)=>(n:Int)).map (Value.int .u8)).toArray w:=by
        have h1:(loadCells p (xs.length*1)).run P w= .ok arrx w:=hf;rw[Nat.mul_one,<-hn]at h1;rw[h1]
        congr 1
        apply Array.ext';rw[harr];simp
       rw[run_bytesToString w p n cap _ hf,foldl_push_bytes];unfold strV
       congr 2
       apply Go.WideShapes.bytes_inj;simp[ByteArray.empty,ByteArray.emptyWithCapacity];exact List.map_congr_left λx _=>rfl
     |_=>obtain⟨_,_,_,h⟩:=hsl;rw[hev]at h;cases h
    simp only[execOp,q64,hconv,q63,q65]
   .exact kbad
  .exact kbad
end
end
noncomputable section
section
variable {D:List Int} {P:Program} {m:qM} {d:Key} {ty:TypeId}
theorem HL{s:Nat}{k:V}(hk:kOk s k): ∀{l:List (V×V)}{j n:Nat}{p:V×V},(KB.mp s l).ok->l[j]?=some p->p.1=k->AP l k n=some (n+j,p.2)
 |[],j,n,p,_,h,_=>by simp at h
 |q::l,j,n,p,ho,h,e=>by
  have hq:=(ho.2 q q5f).1;have ho':(KB.mp s l).ok:=⟨(List.nodup_cons.1 ho.1).2,λp hp=>ho.2 p (q5e _ hp)⟩;show @Bool.rec (λ_=>Option (Nat×V)) (AP l k (Nat.succ n)) (some (n,q.2)) (kyB q.1 k)=_
  cases j with
  |zero=>simp at h;subst h;rw[(wV hq hk).2 e];rfl
  |succ j=>
   have h:l[j]?=some p:=by simpa using h
   cases hb:kyB q.1 k with
   |true=>
    have hq2:=(wV hq hk).1 hb;exact absurd (List.mem_map.2 ⟨p,q5h h,e.trans hq2.symm⟩) (List.nodup_cons.1 ho.1).1
   |false=>
    show AP l k (Nat.succ n)=_;rw[HL hk ho' h e,show Nat.succ n+j=n+(j+1) by omega]
theorem ND{s:Nat}{k:V}(hk:kOk s k): ∀{l:List (V×V)}{n:Nat},(KB.mp s l).ok->(∀p∈l,p.1≠k)->AP l k n=none
 |[],_,_,_=>rfl
 |q::l,n,ho,h=>by
  have hq:=(ho.2 q q5f).1;have ho':(KB.mp s l).ok:=⟨(List.nodup_cons.1 ho.1).2,λp hp=>ho.2 p (q5e _ hp)⟩;show @Bool.rec (λ_=>Option (Nat×V)) (AP l k (Nat.succ n)) (some (n,q.2)) (kyB q.1 k)=_
  cases hb:kyB q.1 k with
  |true=>exact absurd ((wV hq hk).1 hb) (h q q5f)
  |false=>exact ND hk ho' λp hp=>h p (q5e _ hp)
theorem NE{v:V}: ∀{l l':List (V×V)}{j:Nat},M9 l v j=some l'-> ∃p,l[j]?=some p/\l'=l.set j (p.1,v)
 |[],l',j,h=>by cases h
 |p::l,l',0,h=>by
  have h:some ((p.1,v)::l)=some l':=h;injection h with h
  exact⟨p,rfl,h.symm⟩
 |p::l,l',j+1,h=>by
  have h:(match(generalizing:=false) M9 l v j with|some r'=>some (p::r')|none=>none)=some l':=h;split at h
  .rename_i r hr
   injection h with h
   obtain⟨q,h1,h2⟩:=NE hr;exact⟨q,by simpa using h1,by rw[<-h,h2];rfl⟩
  .cases h
section
variable {w:World} {b:Nat} {l:List (V×V)} {vs:List Value} {t kt e:TypeId} {s:Nat} {k:V}
theorem Oc (M : MS P t kt e s) (hb : w.heap[b]? = some (.map (ju 0 (jt (D := D) l vs)).toArray l.length)) (h : (KB.mp s l).ok) (hl : l.length = vs.length) (hk : kOk s k) :
  (∀ n v, AP l k 0 = some (n, v) -> ∃ (p : V × V) (zv : Value), l[n]? = some p /\ p.2 = v /\ vs[n]? = some zv /\ (Instr.mapEntry t (.map (some b)) (valD k)).run P w = .ok (.tuple #[zv, .int .i64 ((n : Nat) : Int)]) (ChangeMaps.setBlock w b (.map (ju 0 (jt (D := D) l vs)).toArray l.length))) /\
   (AP l k 0 = none -> (∀ p ∈ l, p.1 ≠ k) /\ ∀ i z (q : V), P.info? e = some i -> i.zero = some z -> (Instr.mapEntry t (.map (some b)) (valD k)).run P w = .ok (.tuple #[z, .int .i64 ((l.length : Nat) : Int)]) (ChangeMaps.setBlock w b (.map (ju 0 (jt (D := D) (l ++ [(k, q)]) (vs ++ [z]))).toArray (l ++ [(k, q)]).length))) := by
 obtain ⟨kl, hkl⟩ := M.key k hk;rcases M.K.find w hkl (ju 0 (jt (D := D) l vs)) (RI M h) with ⟨f1, f2⟩ | ⟨j, x, f1, f2, f3⟩
 .have hn : ∀ p ∈ l, p.1 ≠ k := λp hp e2 => by
   obtain ⟨j, hj⟩ := List.getElem?_of_mem hp;have hjl : j < vs.length := by rw [<- hl]; exact (List.getElem?_eq_some_iff.1 hj).1
   have := Iy (D := D) hj (q51 hjl);exact f2 _ (q5h this) (by rw [e2])
  refine ⟨λn v hv => (by rw [ND hk h hn] at hv; cases hv), λ_ => ⟨hn, λi z q hi hz => ?_⟩⟩
  have e4 : jt (D := D) (l ++ [(k, q)]) (vs ++ [z]) = jt (D := D) l vs ++ [(valD k, z)] := by
   unfold jt;rw [vF, vF, List.map_append, List.zip_append (by simpa using hl)]; rfl
  have e5 : (jt (D := D) l vs).length = l.length := by unfold jt; rw [vF]; simp [hl]
  rw [e4, Ht, e5];simp [Instr.mapEntry, qd M.hm, MapKept.run_getObj_map hb, M.K.check w _ hkl, f1, jy hi hz, MapKept.run_setObj_map _ hb, Result.andThen, ChangeMaps.setBlock, goInt]
 .obtain ⟨p, zv, hp, hzv, rfl⟩ := Gr f2
  have e3 := Nt (h.2 p (q5h hp)).1 hk f3;have hf := HL (n := 0) hk h hp e3;rw [q5W] at hf;refine ⟨λn v hv => ?_, λhv => (by rw [hf] at hv; cases hv)⟩;rw [hf] at hv;injection hv with hv
  injection hv with h1 h2
  subst h1;refine ⟨p, zv, hp, h2, hzv, ?_⟩;subst e3
  have hsame : (ju 0 (jt (D := D) l vs)).modify j (λx => { x with key := valD p.1 }) = ju 0 (jt (D := D) l vs) := by
   rw [ChangeMaps.modify_eq_set _ _ _ _ f2];exact Go.WideElems.set_self _ _ _ f2
  simp [Instr.mapEntry, qd M.hm, MapKept.run_getObj_map hb, M.K.check w _ hkl, f1, f2, M.K.stays w hkl, hsame, MapKept.run_setObj_map _ hb, Result.andThen, ChangeMaps.setBlock, goInt]
theorem q1h(E:List (Value×Value))(j n:Nat)(b:Value):(ju n E).modify j (λe=>{e with val:=b})=ju n (E.modify j λp=>(p.1,b)):=by
 induction E generalizing j n with
 |nil=>cases j<;>rfl
 |cons p l ih=>cases j with
  |zero=>rfl
  |succ j=>simp only[ju,List.modify_succ_cons];rw[<-ih]
theorem Sz{j:Nat}{q:V}{qv:Value}{p:V×V}(hb:w.heap[b]?=some (.map (ju 0 (jt (D:=D) l vs)).toArray l.length))(hl:l.length=vs.length)(hp:l[j]?=some p):
  (Instr.entryStore t (.map (some b)) (.int .i64 ((j:Nat):Int)) qv).run P w= .ok () (ChangeMaps.setBlock w b (.map (ju 0 (jt (D:=D) (l.set j (p.1,q)) (vs.set j qv))).toArray (l.set j (p.1,q)).length)):=by
 have hjl:j<vs.length:=by rw[<-hl];exact(List.getElem?_eq_some_iff.1 hp).1
 have hx:=Iy (D:=D) hp (q51 hjl)
 have hidx:(ju 0 (jt (D:=D) l vs)).toArray.findIdx? (λx=>((x.born:Nat):Int)==((j:Nat):Int))=some j:=by
  rw[Go.WideElems.findIdx_arr];have:=Go.WideElems.findIdx_born (Py (jt (D:=D) l vs) 0) hx;simpa using this
 have e4:jt (D:=D) (l.set j (p.1,q)) (vs.set j qv)=(jt (D:=D) l vs).set j (valD p.1,qv):=by
  unfold jt;rw[vF,vF,List.map_set,KC]
 have hmod:(ju 0 (jt (D:=D) l vs)).toArray.modify j (λx=>{x with val:=qv})=(ju 0 (jt (D:=D) (l.set j (p.1,q)) (vs.set j qv))).toArray:=by
  apply Array.ext';rw[Array.toList_modify,e4];have hz:(jt (D:=D) l vs)[j]?=some (valD p.1,vs[j]):=List.getElem?_zip_eq_some.2 ⟨by rw[vF,List.getElem?_map,hp];rfl,q51 hjl⟩;show(ju 0 (jt (D:=D) l vs)).modify j _=ju 0 _;rw[q1h,ChangeMaps.modify_eq_set _ _ _ _ hz]
 simp[Instr.entryStore,MapKept.run_getObj_map hb,asInt,asIntOf,hidx,hmod,MapKept.run_setObj_map _ hb,Result.andThen,ChangeMaps.setBlock]
end
theorem RA{t:TypeId}{x y:Operand}{u v:V}:jj D P (.mapEntry t x y) ty [x,y] [u,v] m d (AA P m t u v):=by
 unfold AA;split
 .rename_i k
  split
  .rename_i s l s' e hb ht
   cases hc:(Nat.beq s s'&&kOkB s v)with
   |false=>exact kbad
   |true=>
    simp only[q4L]at hc;obtain⟨c1,c2⟩:=hc;have c1:=q5w c1;subst c1;obtain⟨kt,M⟩:=FF ht
    --what is common
    have main: ∀(z:V)(n:Nat)(l':List (V×V)),z.okC->(v.ok->(KB.mp s l).ok->(KB.mp s l').ok/\ ∀(w:World)(H:Heap)(β:Bm)(b:Nat)(vs:List Value),w.heap[b]?=some (.map (ju 0 (jt (D:=D) l vs)).toArray l.length)->CmpSats β H (l.map λp=>p.2.cmp D) vs->
       ∃zv vs',(z.cmp D).sat β H zv/\CmpSats β H (l'.map λp=>p.2.cmp D) vs'/\(Instr.mapEntry t (.map (some b)) (valD v)).run P w= .ok (.tuple #[zv,.int .i64 ((n:Nat):Int)]) (ChangeMaps.setBlock w b (.map (ju 0 (jt (D:=D) l' vs')).toArray l'.length)))->
      jj D P (.mapEntry t x y) ty [x,y] [.mm k,v] m d (.wr (.tu [z,.nn .i64 n]) [(k,.mp s l)] k (.mp s l')):=by
     intro z n l' hzc hrun hr hv hmm;have hvo:=hv v (by simp);have hkk:=wT c2 hvo;have hbo:(KB.mp s l).ok:=hmm k _ hb;obtain⟨hok',hrun⟩:=hrun hvo hbo;refine⟨λq hq=>?_,λp hp=>(by simp[KR.ks]at hp;subst hp;exact hb),opk ?_,λq hq=>?_,by simp[KR.res],hok',⟨_,by simp[KR.ks];rfl⟩⟩
     .simp at hq;rcases hq with rfl|rfl
      .simp
      .intro e;subst e;(rcases GB hkk with rfl|rfl|rfl<;>exact hkk.elim)
     .show OpOk P (.mapEntry t x y) ty [(x,qc D (.mm k)),(y,qc D v)] [(k.num,(KB.mp s l).blk D)] (qc D (.tu [z,.nn .i64 n])) [(k.num,some ((KB.mp s l').blk D))]
      intro dst pos after guard a w H β K Q hins hkin _ hon hK;obtain⟨b,c,hβ,hx⟩:=hins _ q5f;obtain⟨⟨b',c',vs,hβ',hbk,hss⟩,hown⟩:=hkin _ q5f;simp only at hβ hx hβ' hown;rw[hβ]at hβ';cases hβ'
      rw[q58]at hbk;rw[Ap]at hss;have hy:=JY hkk (hins (y,qc D v) (by simp));simp only at hy;obtain⟨zv,vs',hz,hss',hrn⟩:=hrun w H β b vs hbk hss;unfold Oper.wp
      have hrun:(execOp a.eval ⟨dst,.mapEntry t x y,ty,pos,after,guard⟩).run P w= .ok (.value (.tuple #[zv,.int .i64 ((n:Nat):Int)])) (ChangeMaps.setBlock w b (.map (ju 0 (jt (D:=D) l' vs')).toArray l'.length)):=by
       simp only[execOp,hx,hy,q64,hrn,q63,q65]
      rw[hrun];have hlt:=(hown b c hβ).2;refine hK _ _ H β ?_ ⟨_,rfl,hz,⟨rfl,rfl⟩,trivial⟩ ?_
      .simpa[kwOf,qu,jk,look]using Step.setMap hlt hβ (hown b c hβ).1 hon
      .intro k' b' hb'
       simp only[q5j,q62,q61]at hb';obtain⟨rfl,rfl⟩:=hb';refine⟨b,c,vs',hβ,?_,by rw[Ap];exact hss'⟩;have hset: ∀o,(ChangeMaps.setBlock w b o).heap[b]?=some o:=λo=>by simp[ChangeMaps.setBlock,hlt]
       rw[q58];exact hset _
     .simp[KR.res]at hq;rcases hq with rfl|rfl
      .exact hzc
      .trivial
    show jj D P (.mapEntry t x y) ty [x,y] [.mm k,v] m d (match AP l v 0 with
     |some (j,v')=> .wr (.tu [v',.nn .i64 j]) [(k,.mp s l)] k (.mp s l)
     |none=> @Bool.rec (λ_=>KR) (.wr (.tu [zeroV P e,.nn .i64 l.length]) [(k,.mp s l)] k (.mp s (l++[(v,zeroV P e)]))) .bad (isU (zeroV P e)))
    split
    .rename_i j q hf
     intro hr hv hmm;have hbo:(KB.mp s l).ok:=hmm k _ hb;have hvo:=hv v (by simp);have hkk:=wT c2 hvo
     have hex: ∃p,l[j]?=some p/\p.2=q:=by
      have key: ∀(l:List (V×V))(n j:Nat)(q:V),AP l v n=some (j,q)->n<=j/\ ∃p,l[j-n]?=some p/\p.2=q:=by
       intro l
       induction l with
       |nil=>intro n j q h;cases h
       |cons p r ih=>
        intro n j q h;have h: @Bool.rec (λ_=>Option (Nat×V)) (AP r v (Nat.succ n)) (some (n,p.2)) (kyB p.1 v)=some (j,q):=h
        cases hb:kyB p.1 v with
        |true=>
         rw[hb]at h;injection h with h
         injection h with h1 h2
         subst h1;exact⟨q5B _,p,by simp,h2⟩
        |false=>
         rw[hb]at h;obtain⟨h1,p',h2,h3⟩:=ih _ _ _ h;have h1:n+1<=j:=h1;refine⟨by omega,p',?_,h3⟩;rw[show j-n=(j-(n+1))+1 by omega];simpa using h2
      obtain⟨_,p,h1,h2⟩:=key l 0 j q hf;exact⟨p,by simpa using h1,h2⟩
     obtain⟨p,hp,hpq⟩:=hex;have hqc:q.okC:=by rw[<-hpq];exact(hbo.2 p (q5h hp)).2
     refine main q j l hqc (λhvo h=>⟨h,λw H β b vs hbk hss=>?_⟩) hr hv hmm;have hl:l.length=vs.length:=by have:=Av hss;simpa using this
     obtain⟨p2,zv,g1,g2,g3,g4⟩:=(Oc (D:=D) M hbk h hl (wT c2 hvo)).1 j q hf;refine⟨zv,vs,?_,hss,g4⟩;obtain⟨v2,g5,g6⟩:=CmpSats.get j (a:=q.cmp D) hss (by rw[List.getElem?_map,g1];simp[g2]);rw[g3]at g5;cases g5;exact g6
    .rename_i hf
     cases hz:isU (zeroV P e)with
     |true=>exact kbad
     |false=>
      obtain⟨ti,z,hi,hzz,ez,hzo,hzs⟩:=B0 (D:=D) (t:=e) (P:=P) (vU hz);rw[<-ez]at hzo hzs;refine main _ _ _ hzo (λhvo h=>⟨?_,λw H β b vs hbk hss=>?_⟩)
      .have hkk:=wT c2 hvo
       have hno: ∀p∈l,p.1≠v:=λp hp e2=>by
        obtain⟨j,hj⟩:=List.getElem?_of_mem hp;rw[HL (n:=0) hkk h hj e2]at hf;cases hf
       have:=HM h hkk hzo
       rwa [CB hkk h hno]at this
      .have hl:l.length=vs.length:=by have:=Av hss;simpa using this
       have:=((Oc (D:=D) M hbk h hl (wT c2 hvo)).2 hf).2 ti z (zeroV P e) hi hzz;refine⟨z,vs++[z],hzs β H,?_,this⟩;rw[List.map_append];exact G7 (hzs β H) hss
  .exact kbad
 .exact kbad
theorem Nf{t:TypeId}{x y z:Operand}{u s v:V}:jj D P (.entryStore t x y z) ty [x,y,z] [u,s,v] m d (wv m u s v):=by
 unfold wv;split
 .rename_i k j
  split
  .rename_i s l hb
   cases hc:isC v with
   |false=>exact kbad
   |true=>
    show jj D P (.entryStore t x y z) ty [x,y,z] [.mm k,.nn .i64 j,v] m d (match M9 l v j with
     |some l'=> .wr (.tu []) [(k,.mp s l)] k (.mp s l')
     |none=> .bad)
    split
    .rename_i l' hl'
     obtain⟨p,hp,rfl⟩:=NE hl';intro hr hv hmm;have hqo:v.okC:=A5 hc (hv v (by simp));have hbo:(KB.mp s l).ok:=hmm k _ hb;have hpm:=hbo.2 p (q5h hp)
     have hok:(KB.mp s (l.set j (p.1,v))).ok:=by
      have:=HM hbo hpm.1 hqo
      rwa [CA hpm.1 hbo hp rfl]at this
     refine⟨λq hq=>?_,λp hp=>(by simp[KR.ks]at hp;subst hp;exact hb),opk ?_,λu hu=>(by simp[KR.res]at hu),by simp[KR.res],hok,⟨_,by simp[KR.ks];rfl⟩⟩
     .simp at hq;rcases hq with rfl|rfl|rfl
      .simp
      .simp
      .exact vO hqo
     .show OpOk P (.entryStore t x y z) ty [(x,qc D (.mm k)),(y,qc D (.nn .i64 j)),(z,qc D v)] [(k.num,(KB.mp s l).blk D)] AY [(k.num,some ((KB.mp s (l.set j (p.1,v))).blk D))]
      intro dst pos after guard a w H β K Q hins hkin _ hon hK;obtain⟨b,c,hβ,hx⟩:=hins _ q5f;obtain⟨⟨b',c',vs,hβ',hbk,hss⟩,hown⟩:=hkin _ q5f;simp only at hβ hx hβ' hown;rw[hβ]at hβ';cases hβ'
      rw[q58]at hbk;rw[Ap]at hss;have hy:a.eval y= .int .i64 (j:Int):=(hins (y,qc D (.nn .i64 j)) (by simp)).1;have hz:=hins (z,qc D v) (by simp);simp only at hz;rw[zA hqo]at hz;have hl:l.length=vs.length:=by have:=Av hss;simpa using this
      have hrn:=Sz (D:=D) (P:=P) (t:=t) (q:=v) (qv:=a.eval z) hbk hl hp;unfold Oper.wp
      have hrun:(execOp a.eval ⟨dst,.entryStore t x y z,ty,pos,after,guard⟩).run P w= .ok .skip (ChangeMaps.setBlock w b (.map (ju 0 (jt (D:=D) (l.set j (p.1,v)) (vs.set j (a.eval z)))).toArray (l.set j (p.1,v)).length)):=by
       simp only[execOp,hx,hy,q64,hrn,q63,q65]
      rw[hrun];have hlt:=(hown b c hβ).2;refine hK undef _ H β ?_ (AH _ _) ?_
      .simpa[kwOf,qu,jk,look]using Step.setMap hlt hβ (hown b c hβ).1 hon
      .intro k' b' hb'
       simp only[q5j,q62,q61]at hb';obtain⟨rfl,rfl⟩:=hb';refine⟨b,c,vs.set j (a.eval z),hβ,?_,by rw[Ap,List.map_set];exact HY hz j hss⟩;have hset: ∀o,(ChangeMaps.setBlock w b o).heap[b]?=some o:=λo=>by simp[ChangeMaps.setBlock,hlt]
       rw[q58];exact hset _
    .exact kbad
  .exact kbad
 .exact kbad
end
end
noncomputable section
section
variable {D:List Int} {P:Program} {m:qM} {d:Key} {ty:TypeId}
theorem Wq{t:TypeId}{n s:Nat}{g:Bool}(h:elT P t=some (n,s,g)): ∃e,P.underlying t=some (.array n e)/\qQ P e=some (g,s):=by
 unfold elT at h;split at h
 .rename_i n' e h1
  split at h
  .rename_i g' s' h2
   cases h;exact⟨e,h1,h2⟩
  .cases h
 .cases h
theorem WG{t:TypeId}{x y:Operand}{u v:V}:jj D P (.index t x y) ty [x,y] [u,v] m d (Gz P t u v):=by
 unfold Gz;split
 .rename_i n s g kk j he
  obtain⟨e,h1,h2⟩:=Wq he
  cases hc:isC u&&!u.on&&Nat.blt j n with
  |false=>exact kbad
  |true=>
   simp only[q4L,q4N]at hc;obtain⟨⟨c1,c2⟩,c3⟩:=hc;have c3:j<n:=by simpa using c3
   intro hr hv _;have ho:=A5 c1 (hv u (by simp));obtain⟨l,z,e1,hz,k1,k2,k3,k4⟩:=Nu (D:=D) rfl hr ho;have e1:(@Bool.rec (λ_=>KR) .bad (ldS g s u (j*s) []) true)= .val z []:=e1;rw[e1];refine⟨λy hy=>(by simp at hy;rcases hy with rfl|rfl;exact vO ho;simp),λq hq=>(by simp[KR.ks]at hq),opk ?_,V.okC_ok hz,vO hz,trivial⟩;show OpOk P (.index t x y) ty [(x,qc D u),(y,qb kk (.ofNat j))] [] (qc D z) [];rw[zA ho,zA hz,V.off_cmp c2 ho]
   cases g with
   |true=>rw[k3 rfl];exact FR h1 h2 c3 (λ_=>by rw[k1]) (λh=>by cases h)
   |false=>
    obtain⟨q1,q2,q3⟩:=k4 rfl;rw[q1];rw[q2]at k1;exact FR h1 h2 c3 (λh=>by cases h) (λ_=>⟨_,rfl,Ab k1 q3⟩)
 .exact kbad
theorem PL: ∀(l:List Nat)(j:Nat),getN l j=l[j]?
 |[],j=>by cases j<;>rfl
 |a::r,0=>rfl
 |a::r,j+1=>by
  show getN r j=_;rw[PL r j,q4Y]
theorem WH{t:TypeId}{x y:Operand}{l:List Nat}{v:V}:jj D P (.index t x y) ty [x,y] [.st l,v] m d (GA P t l v):=by
 unfold GA;split
 .rename_i kk j
  split
  .rename_i hu
   split
   .rename_i b hb
    intro hr hv hm;have hl: ∀c∈l,c<256:=hv (.st l) (by simp);rw[PL]at hb;refine vJ (v:= .st l) (u:= .nn kk j) (r:= .nn .u8 b) rfl rfl rfl trivial ?_ hr hv hm;refine qk λa w H β hins _ _=>?_
    have hx:=(hins _ q5f).1;have hy:=(hins (y,.c (.one (V.a1 D (V.nn kk j)))) (by simp)).1;simp only at hx hy;refine⟨.int .u8 (b:Int),⟨rfl,rfl⟩,λ_ _ _ _=>?_⟩;have hj:j<l.length:=(List.getElem?_eq_some_iff.1 hb).1
    have e2:(⟨(l.map UInt8.ofNat).toArray⟩:ByteArray)[j]?=some (UInt8.ofNat b):=by
     have hs:j<(⟨(l.map UInt8.ofNat).toArray⟩:ByteArray).size:=by show j<(l.map UInt8.ofNat).toArray.size;simpa using hj
     rw[getElem?_pos _ j hs];have:(⟨(l.map UInt8.ofNat).toArray⟩:ByteArray)[j]=(l.map UInt8.ofNat).toArray[j]'(by simpa using hj):=rfl;rw[this];have h3:=(List.getElem?_eq_some_iff.1 hb).2;simp[h3]
    have e3:(UInt8.ofNat b).toNat=b:=by
     have:=hl b (q5h hb);simp[UInt8.toNat_ofNat'];omega
    simp only[execOp,hx,hy,Instr.index,asIntOf,q64,q65,q63,qd hu,strV,if_pos (q4P j),q4Q,e2,e3]
   .exact kbad
  .exact kbad
 .exact kbad
theorem JS{t:TypeId}{x y:Operand}{u v:V}:jj D P (.index t x y) ty [x,y] [u,v] m d (Cy P t u v):=by
 unfold Cy;split
 .exact WH
 .exact WG
theorem Uy {op : Op} {xs : List Operand} {vs : List V} {x : Operand} {u : V} {s : Nat} {ks : List (Key × KB)} {r : Nat -> V} {f : Nat -> List V} {r0 : V} (hmem : (x, qc D u) ∈ List.zip xs (vs.map (qc D))) (hne : u.on = true -> (∀ k b, mget m k = some b -> b.ok) -> ∀ v ∈ vs, v ≠ .und) (hr : ∀ n, (r n).ok /\ r n ≠ .und) (hr0 : r0 = r 0)
  (hsrc : (∀ k b, mget m k = some b -> b.ok) -> (∀ p ∈ ks, mget m p.1 = some p.2) /\ (∀ n, okE s (f n) /\ (f n).length <= n) /\ ∀ (a : Act) (w : World) (H : Heap) (β : Bm) (base : Option Addr) (n cap : Nat), (∀ p ∈ List.zip xs (vs.map (qc D)), p.2.sat β H (a.eval p.1)) -> (∀ p ∈ vh D ks, p.2.rep β w H p.1) -> a.eval x = .slice base n cap ->
   ∃ arrx : Array Value, Sats β H (flat D (f n)) arrx.toList /\ ∀ w', (match base with | some p => (storeCells p arrx.toList).run P w | none => Result.ok () w) = .ok () w' ->
    ∃ rv, (∀ dst pos after guard, (execOp a.eval ⟨dst, op, ty, pos, after, guard⟩).run P w = .ok (.value rv) w') /\ ∀ β' H', (qc D (r n)).sat β' H' rv) :
  jj D P op ty xs vs m d (ovr m s u ks r f r0) := by
 have main : ∀ (k : Key) (kb kb' : KB) (N lo n : Nat) (q : Sq V), u.on = true -> mget m k = some kb -> lo + n <= N -> ((kb = .arr s N q /\ kb' = .arr s N (Sq.overL q lo (f n))) \/ (kb = .gro s N q /\ kb' = .gro s N (Sq.overL q lo (f n)))) ->
   (∀ β H xv, (qc D u).sat β H xv -> ∃ b c cap, β k.num = some (b, c) /\ xv = .slice (some ⟨b, lo * s, none⟩) n cap) -> jj D P op ty xs vs m d (.wr (r n) ((k, kb) :: ks) k kb') := by
  intro k kb kb' N lo n q hu hb hfit hkb hx _ hv hm;obtain ⟨a3, a2, a4⟩ := hsrc hm;obtain ⟨a2, a5⟩ := a2 n;have hbo := hm k kb hb;have hfit2 : lo + (f n).length <= N := by omega
  have hbo2 : Br q N /\ okE s (Sq.toL .und q 0 N) := by rcases hkb with ⟨rfl, _⟩ | ⟨rfl, _⟩ <;> exact hbo
  have hbo' : kb'.ok := by
   have := Qj (i := lo) (l := f n) hbo2 a2 hfit2;rcases hkb with ⟨_, rfl⟩ | ⟨_, rfl⟩ <;> exact this
  have hks : ∀ p ∈ (k, kb) :: ks, mget m p.1 = some p.2 := λp hp => by
   rcases q5d.1 hp with rfl | hp
   .exact hb
   .exact a3 p hp
  refine ⟨hne hu hm, hks, ?_, (hr n).1, (hr n).2, hbo', ⟨kb, by simp [KR.ks]⟩⟩;refine opk ?_;show OpOk P op ty (List.zip xs (vs.map (qc D))) (vh D ((k, kb) :: ks)) (qc D (r n)) [(k.num, some (kb'.blk D))];intro dst pos after guard a w H β K Q h1 h2 h3 h4 hK;have hkin : (k.num, kb.blk D) ∈ vh D ((k, kb) :: ks) := by simp [vh]
  obtain ⟨e1, e2, e3⟩ := OR (B := kb'.blk D) (kin := vh D ((k, kb) :: ks)) (k := k.num) (by simp [vh, look]);rw [e1, e2, e3] at hK;obtain ⟨hrep, hown⟩ := h2 _ hkin;obtain ⟨bb, c, cap, hβ, hxe⟩ := hx β H _ (h1 (x, qc D u) hmem);simp only at hxe
  obtain ⟨arrx, b1, b2⟩ := a4 a w H β _ n cap h1 (λp hp => (h2 p (by
   obtain ⟨q, hq, rfl⟩ := List.mem_map.1 hp
   exact List.mem_map.2 ⟨q, q5e _ hq, rfl⟩)).1) hxe
  have hfl := jK (D := D) hbo2.2;rw [Sq.toL_len] at hfl;have hmul : (lo + (f n).length) * s <= N * s := q5O _ hfit2;rw [q5s] at hmul;have hlx := Sats.length b1;rw [jK a2] at hlx;obtain ⟨b', c', arr, T, h | h⟩ := HW (es := s) (n := N) (q := q) (by rcases hkb with ⟨h, _⟩ | ⟨h, _⟩; exact .inl h; exact .inr h) hrep
  .obtain ⟨g1, g2, g3, g4⟩ := h
   rw [hβ] at g1; cases g1
   obtain ⟨w', hst, hset⟩ := zi (P := P) arrx.toList (lo * s) 0 w arr g2 (Sats.oneC b1) (by omega);obtain ⟨rv, r1, r2⟩ := b2 w' hst;unfold Oper.wp;rw [r1];refine hK _ w' H β (Step.setArr hset hβ (hown _ _ hβ).1 h4) (r2 _ _) ?_;intro k' b' hb';simp only [q5j, q62, q61] at hb';obtain ⟨rfl, rfl⟩ := hb';exact NX (es := s) (N := N) (q := q) hkb hbo a2 hfit2 hrep hβ g2 b1 hset
  .rw [hβ] at h; cases h.1
 unfold ovr;split
 .intro _ hv hm
  obtain ⟨a3, a2, a4⟩ := hsrc hm;refine ⟨hne rfl hm, a3, ?_, by rw [hr0]; exact (hr 0).1, by rw [hr0]; exact (hr 0).2, trivial⟩;refine opk (qk λa w H β hins hkin _ => ?_);have hx : (qc D (.uu (.slice none 0 0))).sat β H (a.eval x) := hins (x, _) hmem;obtain ⟨arrx, b1, b2⟩ := a4 a w H β none 0 0 hins hkin hx.1;obtain ⟨rv, r1, r2⟩ := b2 w rfl;exact ⟨rv, by show (qc D r0).sat β H rv; rw [hr0]; exact r2 β H, r1⟩
 .rename_i k lo n c w0
  split
  .rename_i es N q hb
   cases hc : Nat.beq w0 es && Nat.beq es s && Nat.ble (lo + n) N with
   | false => exact kbad
   | true =>
    simp only [q4L] at hc;obtain ⟨⟨c1, c2⟩, c3⟩ := hc;have c1 := q5w c1;have c2 := q5w c2;subst c1; subst c2
    exact main k _ _ N lo n q rfl hb (by simpa using c3) (.inl ⟨rfl, rfl⟩) λβ H xv h => by obtain ⟨bb, c', hβ, rfl⟩ := h; exact ⟨_, _, _, hβ, rfl⟩
  .exact kbad
 .rename_i k lo n w0
  split
  .rename_i es N q hb
   cases hc : Nat.beq w0 es && Nat.beq es s && Nat.ble (lo + n) N with
   | false => exact kbad
   | true =>
    simp only [q4L] at hc;obtain ⟨⟨c1, c2⟩, c3⟩ := hc;have c1 := q5w c1;have c2 := q5w c2;subst c1; subst c2
    exact main k _ _ N lo n q rfl hb (by simpa using c3) (.inr ⟨rfl, rfl⟩) λβ H xv h => by obtain ⟨bb, c', hβ, _, rfl⟩ := h; exact ⟨_, _, _, hβ, rfl⟩
  .exact kbad
 .intro _ hv hm
  obtain ⟨a3, a2, a4⟩ := hsrc hm;obtain ⟨a2, a5⟩ := a2 0;refine ⟨hne rfl hm, a3, ?_, by rw [hr0]; exact (hr 0).1, by rw [hr0]; exact (hr 0).2, trivial⟩;refine opk (qk λa w H β hins hkin _ => ?_);have hx : (qc D .em).sat β H (a.eval x) := hins (x, _) hmem;obtain ⟨b, c, hx⟩ : ∃ b c, a.eval x = .slice (some b) 0 c := hx;obtain ⟨arrx, b1, b2⟩ := a4 a w H β (some b) 0 c hins hkin hx;have e0 : f 0 = [] := q4V (Nat.le_zero.1 a5);rw [e0] at b1;have e1 : arrx.toList = [] := q4V (Sats.length b1).symm;obtain ⟨rv, r1, r2⟩ := b2 w (by show (storeCells b arrx.toList).run P w = _; rw [e1]; simp [storeCells]);exact ⟨rv, by show (qc D r0).sat β H rv; rw [hr0]; exact r2 β H, r1⟩
 .exact kbad
theorem Tl{t tu e:TypeId}{i:TypeInfo}{x y:Operand}(h1:P.underlying t=some (.slice e))(h2:P.info? e=some i){a:Act}{w w':World}{base:Option Addr}{n cap m:Nat}{arrx:Array Value}(ex:a.eval x= .slice base n cap)(hl:(Builtin.lenOf (a.eval y)).run P w= .ok m w)
  (hf:(Builtin.firstCells i.size (Nat.min m n) (a.eval y)).run P w= .ok arrx w)(hst:(match base with|some p=>(storeCells p arrx.toList).run P w|none=>Result.ok () w)= .ok () w')(dst:Option Tmp)(pos:String)(after:Array Edge)(guard:Option (Nat×Bool)):
  (execOp a.eval ⟨dst,.call {callee:= .builtin .copy,args:= #[x,y],argTypes:= #[t,tu]},ty,pos,after,guard⟩).run P w= .ok (.value (goInt (Nat.min m n))) w':=by
 cases base with
 |none=>
  simp only[Result.ok.injEq]at hst;simp only[execOp,resolve,q64,q65,q63,invoke,builtin,List.map_toArray,q5b,List.map_nil,ex,Builtin.copy_,q54,q4Z,q4Y,qd h1,hl,j7 h2,hf];simp[hst]
 |some p=>
  simp only at hst;simp only[execOp,resolve,q64,q65,q63,invoke,builtin,List.map_toArray,q5b,List.map_nil,ex,Builtin.copy_,q54,q4Z,q4Y,qd h1,hl,j7 h2,hf,hst]
theorem q1t{ts tx:TypeId}{x y:Operand}{u v:V}:jj D P (.call {callee:= .builtin .copy,args:= #[x,y],argTypes:= #[ts,tx]}) ty [x,y] [u,v] m d (RH P ts m u v):=by
 unfold RH;split
 .rename_i s b hb
  split
  .rename_i xs ks hsrc
   obtain⟨e,i,h1,h2,rfl,rfl⟩:=zL hb;refine Uy (x:=x) (by simp) (λhu hm z hz=>?_) (λn=>⟨trivial,by simp⟩) (by simp) λhm=>?_
   .simp at hz
    rcases hz with rfl|rfl
    .exact BW hu
    .exact BW (BH (D:=D) (P:=P) hsrc hm).1
   .obtain⟨a1,a2,a3,a4⟩:=BH (D:=D) (P:=P) hsrc hm
    refine⟨a3,λn=>⟨At a2 n,by rw[q5a];omega⟩,λa w H β base n cap hins hk hx=>?_⟩;obtain⟨b1,b2⟩:=a4 w H β _ (hins (y,qc D v) (by simp)) hk;obtain⟨arrx,c1,c2,c3⟩:=b2 (Nat.min xs.length n) (Nat.min_le_left _ _)
    have e1:xs.take (Nat.min xs.length n)=xs.take n:=by
     have:=List.take_eq_take_min (l:=xs) (i:=n);rw[this,Nat.min_comm]
    rw[e1]at c1;exact⟨arrx,c1,λw' hst=>⟨_,Tl h1 h2 hx b1 (c3 w rfl) hst,λβ' H'=>⟨rfl,rfl⟩⟩⟩
  .exact kbad
 .exact kbad
theorem JQ{ts:TypeId}{x:Operand}{u:V}:jj D P (.call {callee:= .builtin .clear,args:= #[x],argTypes:= #[ts]}) ty [x] [u] m d (Np P ts m u):=by
 unfold Np;split
 .rename_i s b hb
  cases hc:!isU (elV P ts)&&Nat.beq (elV P ts).size s with
  |false=>exact kbad
  |true=>
   simp only[q4L,q4N]at hc;have c3:=q5w hc.2;obtain⟨z,hez,hzs,hzo,hzc⟩:=En (D:=D) hb (vU hc.1) c3;obtain⟨e,i,h1,h2,rfl,rfl⟩:=zL hb;obtain⟨e',i',zv,h1',h2',hz',rfl⟩:=Ao hez;rw[h1]at h1';cases h1'
   rw[h2]at h2';cases h2'
   refine Uy (x:=x) (by simp) (λhu hm y hy=>?_) (λn=>⟨λy hy=>(by simp at hy),by simp⟩) rfl λhm=>⟨λp hp=>by simp at hp,λn=>⟨λy hy=>(by rw[(List.mem_replicate.1 hy).2];exact⟨hzo,c3⟩),by simp⟩,λa w H β base n cap hins hk hx=>?_⟩
   .simp at hy;subst hy;exact BW hu
   .refine⟨Builtin.zeroCells zv.cells n,?_,λw' hst=>⟨.tuple #[],λdst pos after guard=>?_,λβ' H'=>⟨#[],rfl,trivial⟩⟩⟩
    .have:=zK hzs (hzc β H) n
     unfold Builtin.zeroCells;rw[hzs];rw[hzs]at this;exact this
    .have hcl:(Builtin.clear_ #[ts] ty #[.slice base n cap]).run P w= .ok (.tuple #[]) w':=by
      cases base with
      |none=>
       have hst:w=w':=by simpa using hst
       subst hst;simp only[Builtin.clear_,q54,q4Z,q64,qd h1,q63,q65]
      |some p=>
       simp only at hst
       cases n with
       |zero=>
        have:(storeCells p (Builtin.zeroCells zv.cells 0).toList).run P w= .ok () w:=by simp[Builtin.zeroCells,storeCells]
        rw[this]at hst;cases hst
        simp only[Builtin.clear_,q54,q4Z,q64,qd h1,q63,q65]
       |succ n=>
        simp only[Builtin.clear_,q54,q4Z,q64,qd h1,q63,jy h2 hz',hst,q65]
     simp only[execOp,resolve,q64,q65,q63,invoke,builtin,List.map_toArray,q5b,List.map_nil,hx,hcl]
 .exact kbad
theorem Ur{t e:TypeId}{x:Operand}{u:Atom}{n:Nat}(h:P.underlying t=some (.slice e))(hu: ∀β H v,u.sat β H v-> ∃a l,v= .slice a l n):
  OpOk P (.call {callee:= .builtin .cap,args:= #[x],argTypes:= #[t]}) ty [(x,.c (.one u))] [] (qb .i64 n) []:=
 qk λa w H β hins _ _=>by
  obtain⟨p,l,hx⟩:=hu β H _ (hins _ q5f);simp only at hx;refine⟨.int .i64 n,⟨rfl,rfl⟩,λ_ _ _ _=>?_⟩
  have hc:(Builtin.cap_ #[t] ty #[.slice p l n]).run P w= .ok (goInt n) w:=by
   simp only[Builtin.cap_,q54,q4Z,q64,qd h,q63,q65]
  simp only[execOp,resolve,q64,q65,q63,invoke,builtin,List.map_toArray,q5b,List.map_nil,hx,hc];rfl
theorem q49{ts:TypeId}{x:Operand}{u:V}:jj D P (.call {callee:= .builtin .cap,args:= #[x],argTypes:= #[ts]}) ty [x] [u] m d (kCap P ts u):=by
 unfold kCap
 cases hs:jB P ts with
 |false=>exact kbad
 |true=>
  unfold jB at hs;split at hs
  .rename_i e he
   simp only;split
   .rename_i k q n c w
    exact we (v:= .sl k q n c w) (r:= .nn .i64 c) rfl rfl trivial (Ur he λβ H y hy=>by obtain⟨b,c',_,rfl⟩:=hy;exact⟨_,_,rfl⟩)
   .rename_i n c
    exact we (v:= .uu (.slice none n c)) (r:= .nn .i64 c) rfl rfl trivial (Ur he λβ H y hy=>by obtain⟨rfl,_⟩:=hy;exact⟨_,_,rfl⟩)
   .exact kbad
  .cases hs
theorem FW{x y:Operand}{ts:Array TypeId}{k:IntKind}{a b:Int}:
  OpOk P (.call {callee:= .builtin .min,args:= #[x,y],argTypes:=ts}) ty [(x,qb k a),(y,qb k b)] [] (qb k (min a b)) []:=
 qk λac w H β hins _ _=>by
  have hx:=(hins (x,qb k a) (by simp)).1;have hy:=(hins (y,qb k b) (by simp)).1;simp only at hx hy;refine⟨.int k (min a b),⟨rfl,rfl⟩,λ_ _ _ _=>?_⟩
  have e:(if b<a then b else a)=min a b:=by
   rw[Int.min_def];split<;>split<;>omega
  simp[execOp,resolve,invoke,builtin,hx,hy,Builtin.min_,Builtin.min2,e]
theorem RB{x y:Operand}{ts:Array TypeId}{u v:V}:jj D P (.call {callee:= .builtin .max,args:= #[x,y],argTypes:=ts}) ty [x,y] [u,v] m d (AB true u v):=by
 unfold AB;split
 .rename_i k a k' b
  cases hk:keq k k' with
  |false=>exact kbad
  |true=>
   have:=zR hk;subst this;refine vJ (v:= .nn k a) (u:= .nn k b) (r:= .nn k (Nat.max a b)) rfl rfl rfl trivial ?_;have h: ∀z:Int,z=max ((a:Int)) ((b:Int))->OpOk P (.call {callee:= .builtin .max,args:= #[x,y],argTypes:=ts}) ty [(x,qb k ((a:Int))),(y,qb k ((b:Int)))] [] (qb k z) []:=λz hz=>by subst hz;exact FU
   refine h (((Nat.max a b:Nat):Int)) ?_;show((max a b:Nat):Int)=_;omega
 .rename_i k a k' b
  cases hk:keq k k' with
  |false=>exact kbad
  |true=>
   have:=zR hk;subst this;refine vJ (v:= .zz k a) (u:= .nn k b) (r:= .nn k b) rfl rfl rfl trivial ?_;have h: ∀z:Int,z=max (Int.negSucc a) ((b:Int))->OpOk P (.call {callee:= .builtin .max,args:= #[x,y],argTypes:=ts}) ty [(x,qb k (Int.negSucc a)),(y,qb k ((b:Int)))] [] (qb k z) []:=λz hz=>by subst hz;exact FU
   refine h ((b:Int)) ?_;show _=_;simp only[Int.negSucc_eq];omega
 .rename_i k a k' b
  cases hk:keq k k' with
  |false=>exact kbad
  |true=>
   have:=zR hk;subst this;refine vJ (v:= .nn k a) (u:= .zz k b) (r:= .nn k a) rfl rfl rfl trivial ?_;have h: ∀z:Int,z=max ((a:Int)) (Int.negSucc b)->OpOk P (.call {callee:= .builtin .max,args:= #[x,y],argTypes:=ts}) ty [(x,qb k ((a:Int))),(y,qb k (Int.negSucc b))] [] (qb k z) []:=λz hz=>by subst hz;exact FU
   refine h ((a:Int)) ?_;show _=_;simp only[Int.negSucc_eq];omega
 .rename_i k a k' b
  cases hk:keq k k' with
  |false=>exact kbad
  |true=>
   have:=zR hk;subst this;refine vJ (v:= .zz k a) (u:= .zz k b) (r:= .zz k (Nat.min a b)) rfl rfl rfl trivial ?_;have h: ∀z:Int,z=max (Int.negSucc a) (Int.negSucc b)->OpOk P (.call {callee:= .builtin .max,args:= #[x,y],argTypes:=ts}) ty [(x,qb k (Int.negSucc a)),(y,qb k (Int.negSucc b))] [] (qb k z) []:=λz hz=>by subst hz;exact FU
   refine h (Int.negSucc (Nat.min a b)) ?_;have e:((Nat.min a b:Nat):Int)=min (a:Int) (b:Int):=by show((min a b:Nat):Int)=_;omega
   simp only[Int.negSucc_eq,e];omega
 .exact kbad
theorem RC{x y:Operand}{ts:Array TypeId}{u v:V}:jj D P (.call {callee:= .builtin .min,args:= #[x,y],argTypes:=ts}) ty [x,y] [u,v] m d (AB false u v):=by
 unfold AB;split
 .rename_i k a k' b
  cases hk:keq k k' with
  |false=>exact kbad
  |true=>
   have:=zR hk;subst this;refine vJ (v:= .nn k a) (u:= .nn k b) (r:= .nn k (Nat.min a b)) rfl rfl rfl trivial ?_;have h: ∀z:Int,z=min ((a:Int)) ((b:Int))->OpOk P (.call {callee:= .builtin .min,args:= #[x,y],argTypes:=ts}) ty [(x,qb k ((a:Int))),(y,qb k ((b:Int)))] [] (qb k z) []:=λz hz=>by subst hz;exact FW
   refine h (((Nat.min a b:Nat):Int)) ?_;show((min a b:Nat):Int)=_;omega
 .rename_i k a k' b
  cases hk:keq k k' with
  |false=>exact kbad
  |true=>
   have:=zR hk;subst this;refine vJ (v:= .zz k a) (u:= .nn k b) (r:= .zz k a) rfl rfl rfl trivial ?_;have h: ∀z:Int,z=min (Int.negSucc a) ((b:Int))->OpOk P (.call {callee:= .builtin .min,args:= #[x,y],argTypes:=ts}) ty [(x,qb k (Int.negSucc a)),(y,qb k ((b:Int)))] [] (qb k z) []:=λz hz=>by subst hz;exact FW
   refine h (Int.negSucc a) ?_;show _=_;simp only[Int.negSucc_eq];omega
 .rename_i k a k' b
  cases hk:keq k k' with
  |false=>exact kbad
  |true=>
   have:=zR hk;subst this;refine vJ (v:= .nn k a) (u:= .zz k b) (r:= .zz k b) rfl rfl rfl trivial ?_;have h: ∀z:Int,z=min ((a:Int)) (Int.negSucc b)->OpOk P (.call {callee:= .builtin .min,args:= #[x,y],argTypes:=ts}) ty [(x,qb k ((a:Int))),(y,qb k (Int.negSucc b))] [] (qb k z) []:=λz hz=>by subst hz;exact FW
   refine h (Int.negSucc b) ?_;show _=_;simp only[Int.negSucc_eq];omega
 .rename_i k a k' b
  cases hk:keq k k' with
  |false=>exact kbad
  |true=>
   have:=zR hk;subst this;refine vJ (v:= .zz k a) (u:= .zz k b) (r:= .zz k (Nat.max a b)) rfl rfl rfl trivial ?_;have h: ∀z:Int,z=min (Int.negSucc a) (Int.negSucc b)->OpOk P (.call {callee:= .builtin .min,args:= #[x,y],argTypes:=ts}) ty [(x,qb k (Int.negSucc a)),(y,qb k (Int.negSucc b))] [] (qb k z) []:=λz hz=>by subst hz;exact FW
   refine h (Int.negSucc (Nat.max a b)) ?_;have e:((Nat.max a b:Nat):Int)=max (a:Int) (b:Int):=by show((max a b:Nat):Int)=_;omega
   simp only[Int.negSucc_eq,e];omega
 .exact kbad
theorem arr1{α:Type}{a:Array α}{x:α}(h:a.toList=[x]):a= #[x]:=Array.ext' h
theorem arr2{α:Type}{a:Array α}{x y:α}(h:a.toList=[x,y]):a= #[x,y]:=Array.ext' h
theorem map1{α β:Type}{f:α->β}{l:List α}{y:β}(h:l.map f=[y]): ∃x,l=[x]/\f x=y:=by
 match l,h with
 |[x],h=>simp at h;exact⟨x,rfl,h⟩
theorem map2{α β:Type}{f:α->β}{l:List α}{y z:β}(h:l.map f=[y,z]): ∃x u,l=[x,u]/\f x=y/\f u=z:=by
 match l,h with
 |[x,u],h=>simp at h;exact⟨x,u,rfl,h.1,h.2⟩
theorem TL{e:Env16}{b:Builtin}{xs:Array Operand}{ts:Array TypeId}:
  jj D P (.call {callee:= .builtin b,args:=xs,argTypes:=ts}) ty xs.toList (xs.toList.map (qa e)) m d (zo P b ts.toList (evs e xs.toList) m d):=by
 unfold zo evs
 cases b with
 |len=>
  simp only;split
  .rename_i t x h1 h2
   obtain⟨o,e1,rfl⟩:=map1 h2;rw[arr1 h1,arr1 e1];exact Ry
  .exact kbad
 |append=>
  simp only;split
  .rename_i t u x y h1 h2
   obtain⟨o,o',e1,rfl,rfl⟩:=map2 h2;rw[arr2 h1,arr2 e1];exact Hy
  .exact kbad
 |copy=>
  simp only;split
  .rename_i t u x y h1 h2
   obtain⟨o,o',e1,rfl,rfl⟩:=map2 h2;rw[arr2 h1,arr2 e1];exact q1t
  .exact kbad
 |clear=>
  simp only;split
  .rename_i t x h1 h2
   obtain⟨o,e1,rfl⟩:=map1 h2;rw[arr1 h1,arr1 e1];exact JQ
  .exact kbad
 |cap=>
  simp only;split
  .rename_i t x h1 h2
   obtain⟨o,e1,rfl⟩:=map1 h2;rw[arr1 h1,arr1 e1];exact q49
  .exact kbad
 |max=>
  simp only;split
  .rename_i x y h2
   obtain⟨o,o',e1,rfl,rfl⟩:=map2 h2;rw[arr2 e1];exact RB
  .exact kbad
 |min=>
  simp only;split
  .rename_i x y h2
   obtain⟨o,o',e1,rfl,rfl⟩:=map2 h2;rw[arr2 e1];exact RC
  .exact kbad
 |_=>exact kbad
theorem Nr{e:Env16}(o:Op):jj D P o ty o.operands.toList (o.operands.toList.map (qa e)) m d (kop P e m d o):=by
 cases o with
 |move x=>exact Nh
 |assign x=>exact Hz
 |load t x=>exact Ng
 |binOp op t x y t'=>exact Rw
 |fieldAddr s x f=>exact Dq
 |store t x y=>exact JT
 |indexAddr t x y=>exact Dr
 |alloc t=>exact JO
 |box t x=>exact Rx
 |extract x i=>exact Fu
 |build t ps=>exact JP
 |pick c x y=>exact Ni
 |buildSlice t n ps=>exact Cs
 |convert s t x=>
  show jj D P (.convert s t x) ty [x] [qa e x] m d (wo P m s t (qa e x));unfold wo;split
  .exact Nd
  .exact Zh
 |makeMap t r=>
  cases r with
  |none=>exact TM
  |some z=>exact kbad
 |lookup t x y c=>exact WI
 |mapUpdate t x y z=>exact Zn
 |mapEntry t x y=>exact RA
 |entryStore t x y z=>exact Nf
 |unOp op t x=>exact h_un
 |slice t x lo hi mx=>
  cases mx with
  |some z=>exact kbad
  |none=>
   have e1:(Op.slice t x lo hi none).operands.toList=x::(lo.toList++hi.toList):=by
    simp[Op.operands]
   have e2:(x::(lo.toList++hi.toList)).map (qa e)=qa e x::((lo.map (qa e)).toList++(hi.map (qa e)).toList):=by
    cases lo<;>cases hi<;>rfl
   rw[e1,e2];exact Gv (by cases lo<;>rfl) (by cases hi<;>rfl)
 |nilCheck x=>exact RE
 |makeSlice t x y=>exact Pa
 |makeFunc fn fs cp=>
  have e1:(Op.makeFunc fn fs cp).operands.toList=fs.toList++cp.toList:=by simp[Op.operands]
  rw[e1,List.map_append];exact q1u (by simp) (by simp)
 |field s x f=>exact JR
 |index t x y=>exact JS
 |call c=>
  obtain⟨cl,xs,ts⟩:=c
  cases cl with
  |builtin b=>
   have e1:(Op.call {callee:= .builtin b,args:=xs,argTypes:=ts}).operands.toList=xs.toList:=by simp[Op.operands,Call.operands]
   rw[e1];exact TL
  |_=>exact kbad
 |_=>exact kbad
end
end
noncomputable section
def outc(D:List Int)(j n:Nat):Nat:=match D[j]? with|some z=>(z%(n:Int)).toNat|none=>0
def AgrS(D:List Int)(s:S):Prop:= ∀j p,s.sc[j]?=some p->outc D (s.dn+j) p.1=p.2
structure SOK (D:List Int) (s:S):Prop where
 ok: ∀k b,mget s.m k=some b->b.ok
 lt: ∀k,mget s.m k≠none->k.num<s.nx.num
 agr:AgrS D s
structure MRep (D:List Int) (m:qM) (w:World) (H:Heap) (β:Bm):Prop where
 rep: ∀k b,mget m k=some b->(b.blk D).rep β w H k.num
 own: ∀k b,mget m k=some b-> ∀bb c,β k.num=some (bb,c)->H bb=none/\bb<w.heap.size
 inj: ∀k k' b b',mget m k=some b->mget m k'=some b'->k≠k'-> ∀bb c c',β k.num=some (bb,c)->β k'.num≠some (bb,c')
structure Sim (m m':qM) (n n':Nat) (w:World) (H:Heap) (β:Bm) (w':World) (H':Heap) (β':Bm):Prop where
 os:w'.os=w.os
 tape:w'.tape=w.tape
 output:w'.output=w.output
 size:w.heap.size<=w'.heap.size
 keep: ∀b,b<w.heap.size->(∀k,mget m k≠none-> ∀c,β k.num≠some (b,c))->w'.heap[b]?=w.heap[b]?
 hle:Heap.Le H H'
 hnew: ∀b,H' b≠none->H b≠none\/w.heap.size<=b
 hon:Heap.On H' w'
 beta: ∀k,k<n\/n'<=k->β' k=β k
 own: ∀k b,mget m' k=some b-> ∀bb c,β' k.num=some (bb,c)->w.heap.size<=bb\/ ∃k0,mget m k0≠none/\ ∃c0,β k0.num=some (bb,c0)
structure CallOk (D:List Int) (P:Program) (f:FuncId) (vs:List V) (s:S) (v:V) (s':S):Prop where
 callable:callable P f=true
 sok:SOK D s'
 le:s.nx.num<=s'.nx.num
 ok:v.ok
 ne:v≠ .und
 old: ∀k,mget s'.m k≠none->mget s.m k≠none\/s.nx.num<=k.num
 calls: ∀us w H β,AVs β H (vs.map (qc D)) us->MRep D s.m w H β->Heap.On H w->(∀k,s.nx.num<=k->k<s'.nx.num->β k=none)->
  Calls P f us.toArray w λe w'=> ∃u H' β',e= .returned u/\Sim s.m s'.m s.nx.num s'.nx.num w H β w' H' β'/\(qc D v).sat β' H' u/\MRep D s'.m w' H' β'
section
variable {D:List Int} {P:Program}
theorem TT: ∃l:List Nat,∀k:Key,k.num∈l:=by
 have: ∀N:Nat,∃l:List Nat,∀i,i<N->i+100000∈l:=by
  intro N
  induction N with
  |zero=>exact⟨[],λi h=>by omega⟩
  |succ N ih=>
   obtain⟨l,hl⟩:=ih;refine⟨(N+100000)::l,λi h=>?_⟩;by_cases e:i=N
   .subst e;exact q5f
   .exact q5e _ (hl i (by omega))
 obtain⟨l,hl⟩:=this 65536;refine⟨l,λk=>?_⟩;have ha:=k.a.n_lt;have hb:=k.b.n_lt;have hc:=k.c.n_lt;have hd:=k.d.n_lt
 have:=hl (k.num-100000) (by unfold Key.num;omega)
 rwa [show k.num-100000+100000=k.num by have:=k.num_ge;omega]at this
def ids:List Nat:=Classical.choose TT
theorem Key.num_ids(k:Key):k.num∈ids:=Classical.choose_spec TT k
def chg(D:List Int)(m m':qM)(n:Nat):Option (Option Blk):=
 match mblk m' n with
 |some b=>some (some (b.blk D))
 |none=>match mblk m n with
  |some _=>some none
  |none=>none
def lwA(D:List Int)(m m':qM):List (Nat×Option Blk):=ids.filterMap λn=>(chg D m m' n).map λx=>(n,x)
theorem B9{α:Type}(g:Nat->Option α): ∀(l:List Nat)(n:Nat),look (l.filterMap λn=>(g n).map λx=>(n,x)) n=if n∈l then g n else none
 |[],n=>by simp[look]
 |a::l,n=>by
  rw[List.filterMap_cons]
  cases hg:g a with
  |none=>
   simp only[q5Z];rw[B9 g l n];by_cases e:n=a
   .subst e;simp[hg]
   .simp[e]
  |some x=>
   simp only[q60,look];by_cases e:n=a
   .subst e;simp[hg]
   .rw[js (λh=>e h.symm)]
    simp only[cond_false];rw[B9 g l n];simp[e]
theorem Wa{m m':qM}{n:Nat}(h:n∉ids):chg D m m' n=none:=by
 have hk: ∀m:qM,mblk m n=none:=by
  intro m
  cases hb:mblk m n with
  |none=>rfl
  |some b=>obtain⟨k,rfl,_⟩:=zd hb;exact absurd k.num_ids h
 unfold chg;rw[hk,hk]
theorem EH(m m':qM)(n:Nat):look (lwA D m m') n=chg D m m' n:=by
 unfold lwA;rw[B9];split
 .rfl
 .rename_i h;rw[Wa h]
theorem SW{E:Env}{σ:FS}{a:Act}{w:World}{H:Heap}{β:Bm}(hrep:RepF E σ a w H β)(hs:Str σ){m m':qM}{lo hi:Nat}{dst:Option Tmp}{R:AV}{u:Value}{w':World}{H':Heap}{β':Bm}
  (hσ: ∀k b,mget m k=some b->σ (2*k.num+1)=some (.bl (b.blk D)))(hsim:Sim m m' lo hi w H β w' H' β')(hsat:R.sat β' H' u)(hM:MRep D m' w' H' β')(hdom: ∀k,lo<=k->k<hi->β k=none)
  (hKs: ∀k∈E.Ks,k<lo)(hd: ∀t,dst=some t->t<E.n):
  RepF E (σ.upd (Wof dst R (lwA D m m'))) (a.put dst u) w' H' β':=by
 have hβ: ∀k,β k≠none->β' k=β k:=λk hk=>by
  by_cases h:lo<=k/\k<hi
  .exact absurd (hdom k h.1 h.2) hk
  .exact hsim.beta k (by omega)
 --a block of the new state
 have hnewblk: ∀k x,(σ.upd (Wof dst R (lwA D m m'))) (2*k+1)=some (.bl x)->
   (mblk m' k=none/\mblk m k=none/\σ (2*k+1)=some (.bl x))\/(∃q b,Key.num q=k/\mget m' q=some b/\x=b.blk D):=by
  intro k x hx;simp only[FS.upd,vd,EH]at hx;unfold chg at hx
  cases h1:mblk m' k with
  |some b=>
   rw[h1]at hx;simp at hx;obtain⟨q,e1,e2⟩:=zd h1;exact .inr ⟨q,b,e1,e2,hx.symm⟩
  |none=>
   rw[h1]at hx
   cases h2:mblk m k with
   |some b=>rw[h2]at hx;simp at hx
   |none=>rw[h2]at hx;exact .inl ⟨rfl,rfl,hx⟩
 have hself: ∀k x,σ (2*k+1)=some (.bl x)->β k≠none:=λk x hx=>(hs _ _ hx).2.2 β w H k (hrep.blk k x hx)
 --an old block that the call does not see
 have hold: ∀k x b c,mblk m k=none->σ (2*k+1)=some (.bl x)->β k=some (b,c)->w'.heap[b]?=w.heap[b]?:=by
  intro k x b c hk hx hb;refine hsim.keep b (hrep.own k x b c hx hb).2.1 λq hq c' hq'=>?_
  obtain⟨bq,hbq⟩:=Option.ne_none_iff_exists'.1 hq;refine hrep.inj q.num k _ x b c' c (hσ q bq hbq) hx (λe=>?_) hq' hb;rw[<-e,vt]at hk;exact hq hk
 refine⟨?_,?_,?_,?_,?_,?_,?_,?_,?_,?_,?_,?_,?_,?_,?_⟩
 .cases dst<;>exact hrep.defers
 .rw[Act.put_size];exact hrep.size
 .intro t av ht
  simp only[FS.upd,jU]at ht;by_cases e:dst=some t
  .rw[if_pos e]at ht
   simp at ht;subst ht;subst e
   have hlt:t<a.tmps.size:=by rw[hrep.size];exact hd t rfl
   exact⟨u,by simp[Act.put,hlt],hsat⟩
  .rw[if_neg e]at ht
   obtain⟨v,hv,hsv⟩:=hrep.slot t av ht;refine⟨v,?_,AV.sat_congr hsim.hle (λk hk=>hβ k ((hs _ _ ht).2 β H v k hsv hk)) hsv⟩
   cases dst with
   |none=>exact hv
   |some d=>
    have hne:d≠t:=λe'=>e (by rw[e'])
    simp only[Act.put];rw[Array.getElem?_setIfInBounds_ne hne];exact hv
 .intro k x hx
  rcases hnewblk k x hx with⟨h1,h2,h3⟩|⟨q,b,rfl,h2,rfl⟩
  .have hr:=hrep.blk k x h3
   refine Blk.rep_congr hr hsim.hle ?_ ?_
   .rintro k' (rfl|hm)
    .exact hβ _ (hself _ _ h3)
    .exact hβ _ ((hs _ _ h3).2.1 β w H k k' hr hm)
   .intro b c hb
    exact hold k x b c h2 h3 hb
  .exact hM.rep q b h2
 .intro k x b c hx hb
  rcases hnewblk k x hx with⟨h1,h2,h3⟩|⟨q,bq,rfl,h2,rfl⟩
  .rw[hβ k (hself k x h3)]at hb
   obtain⟨o1,o2,o3⟩:=hrep.own k x b c h3 hb;refine⟨?_,q5E o2 hsim.size,o3⟩
   cases hH:H' b with
   |none=>rfl
   |some cs=>
    rcases hsim.hnew b (by rw[hH];simp)with h|h
    .exact absurd o1 h
    .omega
  .obtain⟨o1,o2⟩:=hM.own q bq h2 b c hb
   refine⟨o1,o2,?_⟩;rcases hsim.own q bq h2 b c hb with h|⟨k0,hk0,c0,hc0⟩
   .exact .inl (q5C hrep.wsize h)
   .obtain⟨b0,hb0⟩:=Option.ne_none_iff_exists'.1 hk0
    exact(hrep.own k0.num _ b c0 (hσ k0 b0 hb0) hc0).2.2
 .intro k k' x x' b c c' hx hx' hne hb hb'
  have main: ∀q bq k' x' c c',mget m' q=some bq->q.num≠k'->mblk m' k'=none->mblk m k'=none->σ (2*k'+1)=some (.bl x')->β' q.num=some (b,c)->β' k'=some (b,c')->False:=by
   intro q bq k' x' c c' hq hne h1 h2 h3 hb hb';rw[hβ k' (hself k' x' h3)]at hb';have o:=hrep.own k' x' b c' h3 hb';rcases hsim.own q bq hq b c hb with h|⟨k0,hk0,c0,hc0⟩
   .omega
   .obtain⟨b0,hb0⟩:=Option.ne_none_iff_exists'.1 hk0
    refine hrep.inj k0.num k' _ x' b c0 c' (hσ k0 b0 hb0) h3 (λe=>?_) hc0 hb';rw[<-e,vt]at h2;exact hk0 h2
  rcases hnewblk k x hx with⟨h1,h2,h3⟩|⟨q,bq,rfl,h2,rfl⟩<;>rcases hnewblk k' x' hx' with⟨g1,g2,g3⟩|⟨q',bq',rfl,g2,rfl⟩
  .rw[hβ k (hself k x h3)]at hb
   rw[hβ k' (hself k' x' g3)]at hb';exact hrep.inj k k' x x' b c c' h3 g3 hne hb hb'
  .exact main q' bq' k x c' c g2 (Ne.symm hne) h1 h2 h3 hb' hb
  .exact main q bq k' x' c c' h2 hne g1 g2 g3 hb hb'
  .exact hM.inj q q' bq bq' h2 g2 (λe=>hne (by rw[e])) b c c' hb hb'
 .intro k hk
  rw[hsim.beta k (.inl (hKs k hk))];exact hrep.bor k hk
 .rw[hsim.os];exact hrep.os
 .rw[hsim.tape];exact hrep.tape
 .rw[hsim.output];exact hrep.output
 .exact q5C hrep.wsize hsim.size
 .intro b hb hbor
  rw[hsim.keep b (q5E hb hrep.wsize) λq hq c hc=>?_]
  .exact hrep.frame b hb hbor
  .obtain⟨bq,hbq⟩:=Option.ne_none_iff_exists'.1 hq
   rcases(hrep.own q.num _ b c (hσ q bq hbq) hc).2.2 with h|⟨k0,hk0,c0,h⟩
   .omega
   .exact hbor k0 hk0 c0 h
 .exact hrep.hle.trans hsim.hle
 .intro b hb
  rcases hsim.hnew b hb with h|h
  .exact hrep.hnew b h
  .exact .inr (q5C hrep.wsize h)
 .exact hsim.hon
theorem AVs.locs{β:Bm}{H:Heap}: ∀{ps:List (Key×Nat)}{vs:List Value},LocsSat β (ps.map λp=>(p.1.num,p.2)) vs->AVs β H ((ps.map λp=>V.pp p.1 p.2).map (qc D)) vs
 |[],[],_=>trivial
 |p::ps,v::vs,h=>⟨h.1,AVs.locs h.2⟩
 |[],_::_,h=>h.elim
 |_::_,[],h=>h.elim
theorem AVs.append{β:Bm}{H:Heap}: ∀{l l':List AV}{vs vs':List Value},AVs β H l vs->AVs β H l' vs'->AVs β H (l++l') (vs++vs')
 |[],_,[],_,_,h=>h
 |_::_,_,_::_,_,h,h'=>⟨h.1,AVs.append h.2 h'⟩
 |[],_,_::_,_,h,_=>h.elim
 |_::_,_,[],_,h,_=>h.elim
theorem O0{f:V}: ∀x∈AS f,x≠ .und:=λx hx=>by
 unfold AS at hx;split at hx
 .simp at hx;subst hx;simp
 .cases hx
theorem Xa{f:V}(h:f.ok): ∀x∈AS f,x.ok:=λx hx=>by
 unfold AS at hx;split at hx
 .rename_i g w l
  simp at hx;subst hx
  have h:w=wds l/\ ∀x∈l,x.p1.isSome=true/\x.okP:=h;exact⟨h.1,λy hy=>⟨(Md (D:=[]) (h.2 y hy).1).1,(Md (D:=[]) (h.2 y hy).1).2.1.1 (h.2 y hy).2⟩⟩
 .cases hx
theorem P3{f:V}{g:FuncId}{ps:List (Key×Nat)}(h:zl f=some (g,ps)){β:Bm}{H:Heap}{x:Value}(hs:(qc D f).sat β H x):
  ∃fs cap:List Value,x= .func (.func g) fs.toArray cap.toArray/\AVs β H ((AS f).map (qc D)) fs/\AVs β H ((ps.map λp=>V.pp p.1 p.2).map (qc D)) cap:=by
 unfold zl at h;split at h
 .rename_i g' a b
  cases hc:Nat.beq a.size 0&&Nat.beq b.size 0 with
  |false=>rw[hc]at h;cases h
  |true=>
   rw[hc]at h;cases h;rw[q4L]at hc;have ha:=q4K (q5w hc.1);have hb:=q4K (q5w hc.2);subst ha;subst hb
   exact⟨[],[],hs.1,trivial,trivial⟩
 .rename_i g' ps'
  cases h;obtain⟨cap,e,hl⟩:=hs;exact⟨[],cap,e,trivial,AVs.locs hl⟩
 .rename_i g' w l
  cases h;obtain⟨h0,arr,e,hl⟩:=hs;refine⟨[.agg arr],[],e,⟨?_,trivial⟩,trivial⟩;show∃arr':Array Value,Value.agg arr= .agg arr'/\Sats β H (cs D l) arr'.toList;exact⟨arr,rfl,by rw[S6 h0];exact Hp hl⟩
 .cases h
theorem TJ{E:Env}{ops:Array Oper}{i:Nat}{o:Oper}{e:Env16}{m:qM}{s s':S}{f:Operand}{xs:Array Operand}{ts:Array TypeId}{g:FuncId}{ps:List (Key×Nat)}{v:V}(ho:ops[i]?=some o)(hop:o.op= .call {callee:= .value f,args:=xs,argTypes:=ts})
  (hg:jg ops.toList e o.guard=some true)(hd: ∀t,o.dst=some t->t<E.n)(hcal:zl (qa e f)=some (g,ps))(hne: ∀x∈xs.toList,qa e x≠ .und)
  (hcall:CallOk D P g (AS (qa e f)++(evs e xs.toList++ps.map λp=> .pp p.1 p.2)) s v s')(hm: ∀k b,mget s.m k=some b->mget m k=some b)(hKs: ∀k∈E.Ks,k<s.nx.num):
  GoodK P E ops i ⟨gslK ops.toList o.guard++jh (f::xs.toList)++(ids.filter λn=>(mblk s.m n).isSome).map (λn=>2*n+1),Wof o.dst (qc D v) (lwA D s.m s'.m),[],[],none⟩ noAl s.nx.num s'.nx.num (qt D e m):=by
 intro σ hs hσ a w H β K Q hrep hdom hK
 have hrd: ∀ℓ,(ℓ∈gslK ops.toList o.guard\/ℓ∈jh (f::xs.toList)\/ ∃n,n∈ids/\(mblk s.m n).isSome=true/\2*n+1=ℓ)->σ ℓ=qt D e m ℓ:=λℓ hℓ=>by
  rcases hσ ℓ (by simp only[q5c,List.mem_map,q5g];rcases hℓ with h|h|⟨n,h1,h2,h3⟩;exact .inl (.inl h);exact .inl (.inr h);exact .inr ⟨n,⟨h1,h2⟩,h3⟩)with h|⟨x,hx,_⟩
  .exact h
  .exact hx.elim
 have hw:=Gb (D:=D) hrep hg λℓ hℓ=>hrd ℓ (.inl hℓ)
 have hσm: ∀k b,mget s.m k=some b->σ (2*k.num+1)=some (.bl (b.blk D)):=λk b hb=>by
  rw[hrd _ (.inr (.inr ⟨k.num,k.num_ids,by rw[vt,hb];rfl,rfl⟩))];exact jT (hm k b hb)
 have hM:MRep D s.m w H β:=by
  refine⟨λk b hb=>hrep.blk _ _ (hσm k b hb),λk b hb bb c h=>⟨(hrep.own _ _ bb c (hσm k b hb) h).1,(hrep.own _ _ bb c (hσm k b hb) h).2.1⟩,λk k' b b' hb hb' hne' bb c c' h=>?_⟩;exact hrep.inj _ _ _ _ bb c c' (hσm k b hb) (hσm k' b' hb') (λe=>hne' (Key.num_inj e)) h
 unfold wpOp;rw[ho];simp only[hw,if_true];refine .inl ?_;obtain⟨dst,op,ty,pos,after,guard⟩:=o;simp only at hop hd hg hrd hK⊢;subst hop;have hfne:qa e f≠ .und:=λh=>by rw[h]at hcal;cases hcal
 have hf:=Gs (D:=D) (e:=e) (m:=m) hrep hfne λt ht=>hrd _ (.inr (.inl (Bp (by rw[ht];exact q5f))))
 obtain⟨fs,cap,hfe,hfs,hcap⟩:=P3 hcal hf
 have hargs:AVs β H ((evs e xs.toList).map (qc D)) (xs.toList.map a.eval):=by
  have:= @AVs.of_ins β H a xs.toList (xs.toList.map λx=>qc D (qa e x)) (by simp) (λp hp=>by
   obtain⟨h1,h2⟩:=KA hp;rw[h2]
   exact Gs hrep (hne _ h1) λt ht=>hrd _ (.inr (.inl (Bp (by rw[<-ht];exact q5e _ h1)))))
  simpa[evs,List.map_map,Function.comp_def]using this
 have hall:AVs β H ((AS (qa e f)++(evs e xs.toList++ps.map λp=>V.pp p.1 p.2)).map (qc D)) (fs++(xs.toList.map a.eval++cap)):=by
  rw[List.map_append,List.map_append];exact AVs.append hfs (AVs.append hargs hcap)
 have hc:=hcall.calls _ w H β hall hM hrep.hon hdom;unfold Oper.wp
 have hrun:(execOp a.eval ⟨dst,.call {callee:= .value f,args:=xs,argTypes:=ts},ty,pos,after,guard⟩).run P w= .ok (.enter g (fs.toArray++xs.map a.eval++cap.toArray)) w:=by
  simp only[execOp,resolve,hfe,Deferred.ofValue,q64,q65,q63,invoke];exact G1 hcall.callable _ w
 rw[hrun];show Calls P g (fs.toArray++xs.map a.eval++cap.toArray) w _;have ea:(fs++(xs.toList.map a.eval++cap)).toArray=fs.toArray++xs.map a.eval++cap.toArray:=Array.ext' (by simp);rw[<-ea];refine hc.mono λe' w'⟨u,H',β',he,hsim,hR,hM'⟩=>?_
 subst he;exact hK _ w' H' β' (SW hrep hs hσm hsim hR hM' hdom hKs hd) hsim.beta
end
end
noncomputable section
structure Rel (D:List Int) (E:Env) (lo U:Nat) (e:Env16) (s:S) (a:Act) (w:World) (H:Heap) (β:Bm):Prop where
 rep:RepF E (qt D e s.m) a w H β
 dom: ∀k,s.nx.num<=k->k<U->β k=none
 bet: ∀k,k<lo\/s.nx.num<=k->β k=E.β0 k
structure EOK (D:List Int) (E:Env) (lo:Nat) (e:Env16) (s:S):Prop where
 slots: ∀t,(slot e t).ok
 sok:SOK D s
 le:lo<=s.nx.num
 ks: ∀k∈E.Ks,k<lo
 old: ∀k,mget s.m k≠none->k.num∈E.Ks\/lo<=k.num
def RcOk(D:List Int)(P:Program)(rc:FuncId->List V->S->RO):Prop:=
 ∀f vs s v s',rc f vs s= .ok v s'->(∀x∈vs,x.ok/\x≠ .und)->SOK D s->CallOk D P f vs s v s'
def BQ:X->Exit
 | .nrm=> .normal
 | .ext id=>bif Nat.blt id 1048576 then .exit id else .goto (id-1048576)
 | .ret=> .ret
def Ag(D:List Int)(E:Env)(lo U:Nat)(x:X)(e:Env16)(s:S):Exit->Act->World->Prop:=λex a w=>ex=BQ x/\ ∃H β,Rel D E lo U e s a w H β
section
variable {D:List Int} {P:Program} {rc:FuncId->List V->S->RO}
theorem Df{e:Env16}{dst:Option Tmp}{v:V}(hd: ∀t,dst=some t->t<512)(he: ∀t,(slot e t).ok)(hv:v.ok): ∀t,(slot (jd e dst v) t).ok:=by
 intro t
 cases dst with
 |none=>exact he t
 |some d=>
  show(slot (eset e d v) t).ok;rw[CJ v (hd d rfl)];split
  .exact hv
  .exact he t
theorem Vy{e:Env16}{m m':qM}{dst:Option Tmp}{v:V}(hv:v≠ .und)(hd: ∀t,dst=some t->t<512):(qt D e m).upd (Wof dst (qc D v) (lwA D m m'))=qt D (jd e dst v) m':=by
 have hav:v.av D=some (qc D v):=by
  rcases V.av_or (D:=D) v with e1|⟨l,e1⟩|e1
  .exact absurd e1 hv
  .rw[e1];rfl
  .rw[qc,e1];rfl
 funext ℓ;rcases q5J ℓ with h|h
 .obtain⟨t,rfl⟩: ∃t,ℓ=2*t:=⟨ℓ/2,by omega⟩
  simp only[FS.upd,jU];rw[qL,qL]
  cases dst with
  |none=>simp[jd]
  |some d'=>
   show(match(if some d'=some t then some (some (XV.av (qc D v)))else none)with|some v=>v|none=>_)=((slot (eset e d' v) t).av D).map .av;rw[CJ v (hd d' rfl)];by_cases e1:t=d'
   .subst e1;simp[hav]
   .have e2: ¬(some d':Option Tmp)=some t:=λh=>e1 (Option.some.inj h).symm
    rw[if_neg e2,if_neg e1]
 .obtain⟨k,rfl⟩: ∃k,ℓ=2*k+1:=⟨ℓ/2,by omega⟩
  simp only[FS.upd,vd,EH];rw[qj,qj];unfold chg
  cases mblk m' k with
  |some b=>rfl
  |none=>cases mblk m k<;>rfl
theorem Qn{m:qM}{nx:Key}{dn:Nat}{sc:List (Nat×Nat)}{v v':V}{b:KB}{s':S}(h:putK m nx dn sc v b= .ok v' s'):v'=v/\s'.m=mset m nx (some b)/\s'.nx.num=nx.num+1/\s'.dn=dn/\s'.sc=sc:=by
 unfold putK at h;split at h
 .rename_i k' hk
  cases h;exact⟨rfl,rfl,Key.succ_num hk,rfl,rfl⟩
 .cases h
theorem XQ{s s':S}{r:KR}{v:V}(h:ap s r= .ok v s'):r≠ .bad/\v=r.res/\s'.m=apM D s.m s.nx r/\s'.dn=s.dn/\s'.sc=s.sc/\
  (((∃v ks b,r= .nw v ks b)\/(∃v ks k b,r= .mv v ks k b))->s'.nx.num=s.nx.num+1)/\((¬((∃v ks b,r= .nw v ks b)\/(∃v ks k b,r= .mv v ks k b)))->s'.nx=s.nx):=by
 cases r with
 |bad=>cases h
 |val v ks=>cases h;exact⟨by simp,rfl,rfl,rfl,rfl,λh=>(by rcases h with⟨_,_,_,h⟩|⟨_,_,_,_,h⟩<;>cases h),λ_=>rfl⟩
 |wr v ks k b=>cases h;exact⟨by simp,rfl,rfl,rfl,rfl,λh=>(by rcases h with⟨_,_,_,h⟩|⟨_,_,_,_,h⟩<;>cases h),λ_=>rfl⟩
 |nw v ks b=>
  obtain⟨h1,h2,h3,h4,h5⟩:=Qn h;exact⟨by simp,h1,h2,h4,h5,λ_=>h3,λh=>absurd (.inl ⟨_,_,_,rfl⟩) h⟩
 |mv v ks k b=>
  obtain⟨h1,h2,h3,h4,h5⟩:=Qn h;exact⟨by simp,h1,h2,h4,h5,λ_=>h3,λh=>absurd (.inr ⟨_,_,_,_,rfl⟩) h⟩
theorem Hw{s:S}(h:SOK D s):mget s.m s.nx=none:=by
 cases hb:mget s.m s.nx with
 |none=>rfl
 |some b=>have:=h.lt s.nx (by rw[hb];simp);omega
structure FP (all:List Oper) (o:Oper) (p:PI) (s s':S):Prop where
 rd: ∀ℓ∈p.rd,(∃t,ℓ=2*t/\(ℓ∈gslK all o.guard\/ℓ∈jh o.op.operands.toList))\/ ∃k b,mget s.m k=some b/\ℓ=2*k.num+1
 wr: ∀ℓ,look p.W ℓ≠none->(∃t,o.dst=some t/\ℓ=2*t)\/ ∃k:Key,ℓ=2*k.num+1/\(mget s.m k≠none\/(s.nx.num<=k.num/\k.num<s'.nx.num))
 str: ∀ℓ x,look p.W ℓ=some (some x)->XStr ℓ x
theorem Ft{all:List Oper}{g:Option (Nat×Bool)}{ℓ:Nat}(h:ℓ∈gslK all g): ∃t,ℓ=2*t:=by
 unfold gslK at h;split at h
 .simp at h
 .split at h
  .rename_i t _;simp at h;exact⟨t,h⟩
  .simp at h
theorem jS: ∀{l:List Operand}{ℓ:Nat},ℓ∈jh l-> ∃t,ℓ=2*t
 |[],ℓ,h=>by simp[jh]at h
 |x::l,ℓ,h=>by
  cases x with
  |tmp t=>
   simp only[jh,q5d]at h;rcases h with h|h
   .exact⟨t,h⟩
   .exact jS h
  |_=>simp only[jh]at h;exact jS h
theorem Aw{dst:Option Tmp}{R:AV}{Lw:List (Nat×Option Blk)}{ℓ:Nat}(h:look (Wof dst R Lw) ℓ≠none):(∃t,dst=some t/\ℓ=2*t)\/ ∃k,ℓ=2*k+1/\look Lw k≠none:=by
 rcases q5J ℓ with h2|h2
 .obtain⟨t,rfl⟩: ∃t,ℓ=2*t:=⟨ℓ/2,by omega⟩
  rw[jU]at h;split at h
  .rename_i e;exact .inl ⟨t,e,rfl⟩
  .exact absurd rfl h
 .obtain⟨k,rfl⟩: ∃k,ℓ=2*k+1:=⟨ℓ/2,by omega⟩
  rw[vd]at h;refine .inr ⟨k,rfl,λe=>?_⟩;rw[e]at h;exact h rfl
theorem JC{dst:Option Tmp}{v:V}{Lw:List (Nat×Option Blk)}(hv:v≠ .und)(hL: ∀k b,look Lw k=some (some b)->XStr (2*k+1) (.bl b)){ℓ:Nat}{x:XV}(h:look (Wof dst (qc D v) Lw) ℓ=some (some x)):XStr ℓ x:=by
 rcases q5J ℓ with h2|h2
 .obtain⟨t,rfl⟩: ∃t,ℓ=2*t:=⟨ℓ/2,by omega⟩
  rw[jU]at h;split at h
  .cases h
   have hav:v.av D=some (qc D v):=by
    rcases V.av_or (D:=D) v with e1|⟨l,e1⟩|e1
    .exact absurd e1 hv
    .rw[e1];rfl
    .rw[qc,e1];rfl
   exact SY hav t
  .cases h
 .obtain⟨k,rfl⟩: ∃k,ℓ=2*k+1:=⟨ℓ/2,by omega⟩
  rw[vd]at h
  cases hl:look Lw k with
  |none=>rw[hl]at h;cases h
  |some b=>
   cases b with
   |none=>rw[hl]at h;cases h
   |some b=>rw[hl]at h;cases h;exact hL k b hl
theorem Ny{d:Key}{r:KR}{k:Nat}(h:look (lw D d r) k≠none):(∃v ks q b,(r= .wr v ks q b\/r= .mv v ks q b)/\k=q.num)\/(k=d.num/\((∃v ks b,r= .nw v ks b)\/ ∃v ks q b,r= .mv v ks q b)):=by
 cases r with
 |bad=>exact absurd rfl h
 |val v ks=>exact absurd rfl h
 |wr v ks q b=>
  by_cases e:q.num=k
  .exact .inl ⟨v,ks,q,b,.inl rfl,e.symm⟩
  .exact absurd (by simp[lw,look,js e]) h
 |nw v ks b=>
  by_cases e:d.num=k
  .exact .inr ⟨e.symm,.inl ⟨v,ks,b,rfl⟩⟩
  .exact absurd (by simp[lw,look,js e]) h
 |mv v ks q b=>
  by_cases e:q.num=k
  .exact .inl ⟨v,ks,q,b,.inr rfl,e.symm⟩
  .by_cases e2:d.num=k
   .exact .inr ⟨e2.symm,.inr ⟨v,ks,q,b,rfl⟩⟩
   .exact absurd (by simp[lw,look,js e,js e2]) h
theorem q1I{d:Key}{r:KR}{k:Nat}{b:Blk}(h:look (lw D d r) k=some (some b)):XStr (2*k+1) (.bl b):=by
 have hb: ∀q c,look (lw D d r) q=some (some c)-> ∃kb:KB,c=kb.blk D:=by
  intro q c h
  cases r with
  |bad=>cases h
  |val v ks=>cases h
  |wr v ks q' b=>
   simp only[lw,look]at h;cases hq:Nat.beq q'.num q<;>rw[hq]at h
   .cases h
   .cases h;exact⟨b,rfl⟩
  |nw v ks b=>
   simp only[lw,look]at h;cases hq:Nat.beq d.num q<;>rw[hq]at h
   .cases h
   .cases h;exact⟨b,rfl⟩
  |mv v ks q' b=>
   simp only[lw,look]at h;cases hq:Nat.beq q'.num q<;>rw[hq]at h
   .simp only[cond_false]at h
    cases hq2:Nat.beq d.num q<;>rw[hq2]at h
    .cases h
    .cases h;exact⟨b,rfl⟩
   .cases h
 obtain⟨kb,rfl⟩:=hb k b h;exact Gh kb k
theorem q1k{all:List Oper}{o:Oper}{s s':S}{d:Key}{r:KR}(hks: ∀p∈r.ks,mget s.m p.1=some p.2)(hgood:r.good r.ks)(hne:r.res≠ .und)(hd:d=s.nx)(hnx:((∃v ks b,r= .nw v ks b)\/(∃v ks k b,r= .mv v ks k b))->s'.nx.num=s.nx.num+1):
  FP all o ⟨gslK all o.guard++jh o.op.operands.toList++r.ks.map (λp=>2*p.1.num+1),Wof o.dst (qc D r.res) (lw D d r),[],[],none⟩ s s':=by
 subst hd;refine⟨λℓ hℓ=>?_,λℓ hℓ=>?_,λℓ x hx=>JC hne (λk b h=>q1I h) hx⟩
 .simp only[q5c,List.mem_map]at hℓ
  rcases hℓ with(h|h)|⟨p,hp,rfl⟩
  .obtain⟨t,ht⟩:=Ft h;exact .inl ⟨t,ht,.inl h⟩
  .obtain⟨t,ht⟩:=jS h;exact .inl ⟨t,ht,.inr h⟩
  .exact .inr ⟨p.1,p.2,hks p hp,rfl⟩
 .rcases Aw hℓ with h|⟨k,rfl,h⟩
  .exact .inl h
  .rcases Ny h with⟨v,ks,q,b,h1,rfl⟩|⟨rfl,h1⟩
   .refine .inr ⟨q,rfl,.inl ?_⟩
    have: ∃b',(q,b')∈r.ks:=by rcases h1 with rfl|rfl<;>exact hgood.2
    obtain⟨b',hb'⟩:=this;rw[hks _ hb'];simp
   .exact .inr ⟨s.nx,rfl,.inr ⟨q5B _,by rw[hnx h1];omega⟩⟩
theorem Zb{all:List Oper}{o:Oper}{s s':S}{f:Operand}{xs:Array Operand}{ts:Array TypeId}{g:FuncId}{vs:List V}{v:V}(hop:o.op= .call {callee:= .value f,args:=xs,argTypes:=ts})(hc:CallOk D P g vs s v s'):
  FP all o ⟨gslK all o.guard++jh (f::xs.toList)++(ids.filter λn=>(mblk s.m n).isSome).map (λn=>2*n+1),Wof o.dst (qc D v) (lwA D s.m s'.m),[],[],none⟩ s s':=by
 have hops:o.op.operands.toList=f::xs.toList:=by rw[hop];simp[Op.operands,Call.operands]
 refine⟨λℓ hℓ=>?_,λℓ hℓ=>?_,λℓ x hx=>JC hc.ne (λk b h=>?_) hx⟩
 .simp only[q5c,List.mem_map,q5g]at hℓ
  rcases hℓ with(h|h)|⟨n,⟨_,hn⟩,rfl⟩
  .obtain⟨t,ht⟩:=Ft h;exact .inl ⟨t,ht,.inl h⟩
  .obtain⟨t,ht⟩:=jS h;exact .inl ⟨t,ht,.inr (by rw[hops];exact h)⟩
  .obtain⟨b,hb⟩:=Option.isSome_iff_exists.1 hn
   obtain⟨k,rfl,hk⟩:=zd hb;exact .inr ⟨k,b,hk,rfl⟩
 .rcases Aw hℓ with h|⟨n,rfl,h⟩
  .exact .inl h
  .rw[EH]at h
   unfold chg at h
   cases hb:mblk s'.m n with
   |some b=>
    obtain⟨k,rfl,hk⟩:=zd hb;refine .inr ⟨k,rfl,?_⟩;rcases hc.old k (by rw[hk];simp)with h1|h1
    .exact .inl h1
    .exact .inr ⟨h1,hc.sok.lt k (by rw[hk];simp)⟩
   |none=>
    rw[hb]at h
    cases hb2:mblk s.m n with
    |none=>rw[hb2]at h;exact absurd rfl h
    |some b=>
     obtain⟨k,rfl,hk⟩:=zd hb2;exact .inr ⟨k,rfl,.inl (by rw[hk];simp)⟩
 .rw[EH]at h
  unfold chg at h
  cases hb:mblk s'.m k with
  |some b'=>rw[hb]at h;cases h;exact Gh b' k
  |none=>
   rw[hb]at h
   cases hb2:mblk s.m k with
   |none=>rw[hb2]at h;cases h
   |some b'=>rw[hb2]at h;cases h
theorem Kl{E:Env}{ops:Array Oper}{i n:Nat}{o:Oper}{lo:Nat}{e:Env16}{s s':S}{v:V}(ho:ops[i]?=some o)(hn:E.n=n)(hdk:zn n o=true)(hg:jg ops.toList e o.guard=some true)
  (he:EOK D E lo e s){r:KR}(hkk:jj D P o.op o.type o.op.operands.toList (o.op.operands.toList.map (qa e)) s.m s.nx r)(hap:ap s r= .ok v s'):GoodK P E ops i ⟨gslK ops.toList o.guard++jh o.op.operands.toList++r.ks.map (λp=>2*p.1.num+1),Wof o.dst (qc D r.res) (lw D s.nx r),[],[],none⟩ noAl s.nx.num s'.nx.num (qt D e s.m)/\(qt D e s.m).upd (Wof o.dst (qc D r.res) (lw D s.nx r))=qt D (jd e o.dst v) s'.m/\EOK D E lo (jd e o.dst v) s'/\s.nx.num<=s'.nx.num/\FP ops.toList o ⟨gslK ops.toList o.guard++jh o.op.operands.toList++r.ks.map (λp=>2*p.1.num+1),Wof o.dst (qc D r.res) (lw D s.nx r),[],[],none⟩ s s'/\v=r.res/\v≠ .und/\v.ok:=by
 have hd: ∀t,o.dst=some t->t<E.n/\t<512:=λt ht=>by
  unfold zn at hdk;rw[ht]at hdk;simp only[q4L]at hdk;rw[hn];exact⟨by simpa using hdk.1,by simpa using hdk.2⟩
 have hKs: ∀k∈E.Ks,k<s.nx.num:=λk hk=>q5E (he.ks k hk) he.le
 have hfr:=Hw he.sok;have hk:=hkk;have ha:=hap;obtain⟨a1,a2,a3,a4,a5,a6,a7⟩:=XQ (D:=D) ha;obtain⟨k1,k2,k3,k4,k5,k6⟩:=hk a1 (λx hx=>by obtain⟨y,_,rfl⟩:=List.mem_map.1 hx;exact Fl he.slots y) he.sok.ok;subst a2
 have hmv: ∀v ks k b,r= .mv v ks k b->k≠s.nx:=by
  intro v ks k b e1 e2;subst e1;subst e2
  obtain⟨_,b',hb'⟩:=k6;have:=k2 _ hb';rw[hfr]at this;cases this
 have hle:s.nx.num<=s'.nx.num:=by
  by_cases hq:(∃v ks b,r= .nw v ks b)\/(∃v ks k b,r= .mv v ks k b)
  .rw[a6 hq];omega
  .rw[a7 hq];exact q5B _
 refine⟨Nc (al:=noAl) (hi:=s'.nx.num) ho hg (λt ht=>(hd t ht).1) (λ_ _ hp=>hp.elim) (λx hx=>k1 _ (List.mem_map.2 ⟨x,hx,rfl⟩)) k2 k6 hfr ?_ (λhq=>by rw[a6 hq];omega) hKs,?_,?_,hle,q1k k2 k6 k5 rfl a6,rfl,k5,k4⟩
 .intro kin h1 h2
  have:kin=vh D r.ks:=by
   unfold vh
   have key: ∀(ks:List (Key×KB))(kin:List (Nat×Blk)),(∀p∈ks,mget s.m p.1=some p.2)->kin.map (·.1)=ks.map (·.1.num)->(∀p∈kin,qt D e s.m (2*p.1+1)=some (.bl p.2)\/noAl (2*p.1+1) (XV.bl p.2))->kin=ks.map λp=>(p.1.num,p.2.blk D):=by
    intro ks
    induction ks with
    |nil=>intro kin _ h _;cases kin with|nil=>rfl|cons _ _=>simp at h
    |cons q ks ih=>
     intro kin hq h hh
     cases kin with
     |nil=>simp at h
     |cons p kin=>
      simp only[q5b,List.cons.injEq]at h;have h3:=hh p q5f;rw[h.1,jT (hq q q5f)]at h3;simp only[q61,XV.bl.injEq,noAl,or_false]at h3;rw[q5b,<-ih kin (λp hp=>hq p (q5e _ hp)) h.2 (λp hp=>hh p (q5e _ hp))]
      congr 1
      obtain⟨p1,p2⟩:=p;simp only at h h3⊢;rw[h.1,h3]
   exact key _ _ k2 h1 h2
  subst this;rw[show(o.op.operands.toList.map λx=>qc D (qa e x))=(o.op.operands.toList.map (qa e)).map (qc D) by rw[List.map_map];rfl];exact k3
 .rw[a3];exact I2 k5 (λt ht=>(hd t ht).2) hmv
 .refine⟨Df (λt ht=>(hd t ht).2) he.slots k4,⟨?_,?_,?_⟩,q5C he.le hle,he.ks,?_⟩
  .intro k b hb
   rw[a3]at hb
   cases r with
   |bad=>exact absurd rfl a1
   |val v ks=>exact he.sok.ok k b hb
   |wr v ks k' b'=>
    simp only[apM,vu]at hb;split at hb
    .cases hb;exact k6.1
    .exact he.sok.ok k b hb
   |nw v ks b'=>
    simp only[apM,vu]at hb;split at hb
    .cases hb;exact k6
    .exact he.sok.ok k b hb
   |mv v ks k' b'=>
    simp only[apM,vu]at hb;split at hb
    .cases hb;exact k6.1
    .split at hb
     .cases hb
     .exact he.sok.ok k b hb
  .intro k hk
   rw[a3]at hk
   cases r with
   |bad=>exact absurd rfl a1
   |val v ks=>exact q5E (he.sok.lt k hk) hle
   |wr v ks k' b'=>
    simp only[apM,vu]at hk;split at hk
    .rename_i e1;subst e1
     obtain⟨_,b'',hb''⟩:=k6;exact q5E (he.sok.lt k' (by rw[k2 _ hb''];simp)) hle
    .exact q5E (he.sok.lt k hk) hle
   |nw v ks b'=>
    have h1:=a6 (.inl ⟨_,_,_,rfl⟩);simp only[apM,vu]at hk;split at hk
    .rename_i e1;subst e1;omega
    .exact q5E (he.sok.lt k hk) hle
   |mv v ks k' b'=>
    have h1:=a6 (.inr ⟨_,_,_,_,rfl⟩);simp only[apM,vu]at hk;split at hk
    .rename_i e1;subst e1;omega
    .split at hk
     .exact absurd rfl hk
     .exact q5E (he.sok.lt k hk) hle
  .intro j p hp
   rw[a5]at hp;rw[a4];exact he.sok.agr j p hp
  .intro k hk
   rw[a3]at hk
   cases r with
   |bad=>exact absurd rfl a1
   |val v ks=>exact he.old k hk
   |wr v ks k' b'=>
    simp only[apM,vu]at hk;split at hk
    .rename_i e1;subst e1
     obtain⟨_,b'',hb''⟩:=k6;exact he.old k' (by rw[k2 _ hb''];simp)
    .exact he.old k hk
   |nw v ks b'=>
    simp only[apM,vu]at hk;split at hk
    .rename_i e1;subst e1;exact .inr he.le
    .exact he.old k hk
   |mv v ks k' b'=>
    simp only[apM,vu]at hk;split at hk
    .rename_i e1;subst e1;exact .inr he.le
    .split at hk
     .exact absurd rfl hk
     .exact he.old k hk
theorem Oa(hrc:RcOk D P rc){E:Env}{ops:Array Oper}{i n:Nat}{o:Oper}{lo:Nat}{e:Env16}{s s':S}{v:V}(ho:ops[i]?=some o)(hn:E.n=n)(hdk:zn n o=true)(hg:jg ops.toList e o.guard=some true)
  (he:EOK D E lo e s)(h:zG rc P e s o.op= .ok v s'): ∃p:PI,GoodK P E ops i p noAl s.nx.num s'.nx.num (qt D e s.m)/\(qt D e s.m).upd p.W=qt D (jd e o.dst v) s'.m/\EOK D E lo (jd e o.dst v) s'/\s.nx.num<=s'.nx.num/\FP ops.toList o p s s':=by
 have hd: ∀t,o.dst=some t->t<E.n/\t<512:=λt ht=>by
  unfold zn at hdk;rw[ht]at hdk;simp only[q4L]at hdk;rw[hn];exact⟨by simpa using hdk.1,by simpa using hdk.2⟩
 have hKs: ∀k∈E.Ks,k<s.nx.num:=λk hk=>q5E (he.ks k hk) he.le
 have hfr:=Hw he.sok
 have main: ∀{r:KR},jj D P o.op o.type o.op.operands.toList (o.op.operands.toList.map (qa e)) s.m s.nx r->ap s r= .ok v s'-> ∃p:PI,GoodK P E ops i p noAl s.nx.num s'.nx.num (qt D e s.m)/\(qt D e s.m).upd p.W=qt D (jd e o.dst v) s'.m/\EOK D E lo (jd e o.dst v) s'/\s.nx.num<=s'.nx.num/\FP ops.toList o p s s':=by
  intro r hk ha;obtain⟨q1,q2,q3,q4,q5,_⟩:=Kl ho hn hdk hg he hk ha;exact⟨_,q1,q2,q3,q4,q5⟩
 unfold zG at h;split at h
 .rename_i f xs ts hop
  unfold kcall at h;split at h
  .rename_i g ps hcal
   cases ha:AI (evs e xs.toList)with
   |false=>rw[ha]at h;cases h
   |true=>
    rw[ha]at h
    have hne: ∀x∈xs.toList,qa e x≠ .und:=λx hx=>by
     have:=(List.all_eq_true.1 ha) (qa e x) (List.mem_map.2 ⟨x,hx,rfl⟩);exact vU (by simpa using this)
    have hfne:qa e f≠ .und:=λh=>by rw[h]at hcal;cases hcal
    have hc:=hrc _ _ _ _ _ h (λx hx=>by
     rcases q5c.1 hx with hx|hx
     .exact⟨Xa (Fl he.slots f) x hx,O0 x hx⟩
     rcases q5c.1 hx with hx|hx
     .obtain⟨y,hy,rfl⟩:=List.mem_map.1 hx
      exact⟨Fl he.slots y,hne y hy⟩
     .obtain⟨p,_,rfl⟩:=List.mem_map.1 hx
      exact⟨trivial,by simp⟩) he.sok
    refine⟨_,TJ ho hop hg (λt ht=>(hd t ht).1) hcal hne hc (λk b hb=>hb) hKs,Vy hc.ne (λt ht=>(hd t ht).2),?_,hc.le,Zb hop hc⟩;refine⟨Df (λt ht=>(hd t ht).2) he.slots hc.ok,hc.sok,q5C he.le hc.le,he.ks,λk hk=>?_⟩;rcases hc.old k hk with h1|h1
    .exact he.old k h1
    .exact .inr (q5C he.le h1)
  .cases h
 .exact main (Nr o.op) h
theorem Zv{e:Env16}{m:qM}{d:Key}{ty:TypeId}{op:Op}{r:KR}(h:kopS P e m op=some r):jj D P op ty op.operands.toList (op.operands.toList.map (qa e)) m d r:=by
 unfold kopS at h;split at h
 .rename_i t x l hh
  injection h with h
  subst h;have e1:(Op.slice t x (some l) (some hh) none).operands.toList=[x,l,hh]:=by simp[Op.operands]
  rw[e1];exact WJ
 .rename_i t x l hh z
  injection h with h
  subst h;have e1:(Op.slice t x (some l) (some hh) (some z)).operands.toList=[x,l,hh,z]:=by simp[Op.operands]
  rw[e1];exact HA
 .cases h
theorem UQ(hrc:RcOk D P rc){E:Env}{ops:Array Oper}{i n:Nat}{o:Oper}{lo:Nat}{e:Env16}{s s':S}{v:V}(ho:ops[i]?=some o)(hn:E.n=n)(hdk:zn n o=true)(hg:jg ops.toList e o.guard=some true)
  (he:EOK D E lo e s)(h:Ac rc P e s o.op= .ok v s'): ∃p:PI,GoodK P E ops i p noAl s.nx.num s'.nx.num (qt D e s.m)/\(qt D e s.m).upd p.W=qt D (jd e o.dst v) s'.m/\EOK D E lo (jd e o.dst v) s'/\s.nx.num<=s'.nx.num/\FP ops.toList o p s s':=by
 unfold Ac at h;split at h
 .rename_i r hk
  obtain⟨q1,q2,q3,q4,q5,_⟩:=Kl ho hn hdk hg he (Zv hk) h;exact⟨_,q1,q2,q3,q4,q5⟩
 .exact Oa hrc ho hn hdk hg he h
theorem Lr(hrc:RcOk D P rc){E:Env}{ops:Array Oper}{n lo U:Nat}(hn:E.n=n)(hds: ∀o∈ops.toList,zn n o=true): ∀(l:List Oper)(i:Nat)(e:Env16)(s:S)(x:X)(e':Env16)(s':S),l=ops.toList.drop i->
  Ad rc P ops.toList l e s= .ok x e' s'->EOK D E lo e s->s'.nx.num<=U->x= .nrm/\EOK D E lo e' s'/\s.nx.num<=s'.nx.num/\
   ∀a w H β,Rel D E lo U e s a w H β->wpOps P ops (Ag D E lo U .nrm e' s') (List.range' i (ops.size-i)) a w
 |[],i,e,s,x,e',s',hl,h,he,hU=>by
  cases h
  have hi:ops.size<=i:=by
   have:=congrArg List.length hl;simp at this;omega
  refine⟨rfl,he,q5B _,λa w H β hr=>?_⟩;rw[show ops.size-i=0 by omega];exact⟨rfl,H,β,hr⟩
 |o::r,i,e,s,x,e',s',hl,h,he,hU=>by
  have hi:i<ops.size:=by
   rcases q5F i ops.size with h'|h'
   .exact h'
   .rw[q4T (by simpa using h')]at hl;cases hl
  have ho':ops.toList[i]?=some o:=by
   have:=congrArg List.head? hl;simpa[List.head?_drop]using this.symm
  have ho:ops[i]?=some o:=by simpa using ho'
  have hr':r=ops.toList.drop (i+1):=by
   have:=congrArg List.tail hl;simpa[List.tail_drop]using this
  have hom:o∈ops.toList:=q5h ho';have hdk:=hds o hom
  have hd: ∀t,o.dst=some t->t<E.n/\t<512:=λt ht=>by
   unfold zn at hdk;rw[ht]at hdk;simp only[q4L]at hdk;rw[hn];exact⟨by simpa using hdk.1,by simpa using hdk.2⟩
  have hrange:List.range' i (ops.size-i)=i::List.range' (i+1) (ops.size-(i+1)):=by
   rw[show ops.size-i=(ops.size-(i+1))+1 by omega];rfl
  --one step
  have step: ∀{p:PI}{e1:Env16}{s1:S},GoodK P E ops i p noAl s.nx.num s1.nx.num (qt D e s.m)->(qt D e s.m).upd p.W=qt D e1 s1.m->EOK D E lo e1 s1->s.nx.num<=s1.nx.num->Ad rc P ops.toList r e1 s1= .ok x e' s'->
    x= .nrm/\EOK D E lo e' s'/\s.nx.num<=s'.nx.num/\ ∀a w H β,Rel D E lo U e s a w H β->wpOps P ops (Ag D E lo U .nrm e' s') (List.range' i (ops.size-i)) a w:=by
   intro p e1 s1 hG hW he1 hle hrun;obtain⟨r1,r2,r3,r4⟩:=Lr hrc hn hds r (i+1) e1 s1 x e' s' hr' hrun he1 hU;refine⟨r1,r2,q5C hle r3,λa w H β hrel=>?_⟩;rw[hrange,wpOps_cons];refine hG _ (Ou e s.m) (λℓ _=> .inl rfl) a w H β _ _ hrel.rep (λk h1 h2=>hrel.dom k h1 (by omega)) ?_;intro a' w' H' β' hrep' hβ;rw[hW]at hrep';refine r4 a' w' H' β' ⟨hrep',λk h1 h2=>?_,λk hk=>?_⟩
   .rw[hβ k (.inr h1)];exact hrel.dom k (by omega) h2
   .have:k<s.nx.num\/s1.nx.num<=k:=by
     rcases hk with hk|hk
     .exact .inl (q5E hk he.le)
     .exact .inr hk
    rw[hβ k this];refine hrel.bet k ?_;rcases hk with hk|hk
    .exact .inl hk
    .exact .inr (by omega)
  have h2: @Option.rec Bool (λ_=>R) (.no [6]) (λg=> @Bool.rec (λ_=>R) (Ad rc P ops.toList r (jd e o.dst (.tu [])) s)
   (@RO.rec (λ_=>R) (λv s'=>Ad rc P ops.toList r (jd e o.dst v) s') (λt=> .no (r.length::t)) (λn=> .need n) (Ac rc P e s o.op)) g) (jg ops.toList e o.guard)= .ok x e' s':=h
  cases hg:jg ops.toList e o.guard with
  |none=>rw[hg]at h2;cases h2
  |some g=>
   rw[hg]at h2
   cases g with
   |false=>
    have hW:(qt D e s.m).upd (Wof o.dst (qc D (.tu [])) [])=qt D (jd e o.dst (.tu [])) s.m:=by
     have:=I2 (D:=D) (e:=e) (m:=s.m) (d:=s.nx) (r:= .val (.tu []) []) (dst:=o.dst) (v:= .tu []) (by simp) (λt ht=>(hd t ht).2) (λ_ _ _ _ h=>by cases h);exact this
    exact step (L0 ho hg (λt ht=>(hd t ht).1)) hW ⟨Df (λt ht=>(hd t ht).2) he.slots (λx hx=>by simp at hx),he.sok,he.le,he.ks,he.old⟩ (q5B _) h2
   |true=>
    simp only at h2
    cases hop:Ac rc P e s o.op with
    |no t=>rw[hop]at h2;cases h2
    |need n=>rw[hop]at h2;cases h2
    |ok v s1=>
     rw[hop]at h2;obtain⟨p,g1,g2,g3,g4,_⟩:=UQ hrc ho hn hdk hg he hop;exact step g1 g2 g3 g4 h2
end
end
end Go.Proofs.YtamiaelfnfnegaaGreatDoor.Sx.Kx
