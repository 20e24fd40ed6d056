/-
Own laws, part 7. No condition.
-/
import Derived.Test.YtamiaelfnfnegaaGreatDoorM6
import Derived.Scope
namespace Go.Proofs.YtamiaelfnfnegaaGreatDoor.Sx.Kx
open Go
set_option linter.unusedVariables false
set_option linter.unusedSimpArgs false
noncomputable section
def Vl(r:KR):Prop:=r= .bad\/ ∃v,r= .val v []
def Nw(r:KR):Prop:=r= .bad\/ ∃v b,r= .nw v [] b
theorem Vl.bad:Vl .bad:= .inl rfl
theorem Vl.val(v:V):Vl (.val v []):= .inr ⟨v,rfl⟩
theorem Vl.rc{a b:KR}{c:Bool}(ha:Vl a)(hb:Vl b):Vl (@Bool.rec (λ_=>KR) a b c):=by cases c;exact ha;exact hb
theorem Nw.bad:Nw .bad:= .inl rfl
theorem Nw.nw(v:V)(b:KB):Nw (.nw v [] b):= .inr ⟨v,b,rfl⟩
theorem Nw.rc{a b:KR}{c:Bool}(ha:Nw a)(hb:Nw b):Nw (@Bool.rec (λ_=>KR) a b c):=by cases c;exact ha;exact hb
section
variable {P:Program} {e:Env16} {m:qM} {d:Key}
theorem QQ{v:V}:Vl (Bo v):=by unfold Bo;exact Vl.rc (Vl.val _) Vl.bad
theorem VM{v:V}:Vl (retV v):=by unfold retV;split;exact Vl.bad;exact Vl.val _
theorem q3b {op : BinOp} {t : TypeId} {x y : V} : Vl (kNil P op t x y) := by
  first
  | exact Vl.bad
  | (unfold kNil kAg
     repeat' first | exact Vl.bad | exact VM | apply Vl.rc | split)
theorem E3{op:BinOp}{t:TypeId}{x y:V}:Vl (kBin P op t x y):=by
 unfold kBin
 repeat' first|exact Vl.bad|exact q3b|exact VM|apply Vl.rc|split
theorem Yw{op:UnOp}{v:V}:Vl (kUn P op v):=by
 unfold kUn
 repeat' first|exact Vl.bad|exact Vl.val _|apply Vl.rc|split
theorem OB{s:TypeId}{f:Nat}{p:V}:Vl (jW P s f p):=by
 unfold jW
 repeat' first|exact Vl.bad|exact Vl.val _|apply Vl.rc|split
theorem OE{t:TypeId}{p i:V}:Vl (jX P t p i):=by
 unfold jX
 repeat' first|exact Vl.bad|exact Vl.val _|apply Vl.rc|split
theorem SH{v:V}{i:Nat}:Vl (As v i):=by
 unfold As
 repeat' first|exact Vl.bad|exact Vl.val _|apply Vl.rc|split
theorem Oz{t:TypeId}{is:List Nat}{vs:List V}:Vl (Cv P t is vs):=by
 unfold Cv
 repeat' first|exact Vl.bad|exact Vl.val _|apply Vl.rc|split
theorem QR{a b c:V}:Vl (D2 a b c):=by
 unfold D2
 repeat' first|exact Vl.bad|exact Vl.val _|apply Vl.rc|split
theorem Ku{s t:TypeId}{v:V}:Vl (D1 P s t v):=by
 unfold D1
 repeat' first|exact Vl.bad|exact Vl.val _|apply Vl.rc|split
theorem CM{t:TypeId}{x:V}{lo hi:Option V}:Vl (vV P t x lo hi):=by
 unfold vV JX
 repeat' first|exact Vl.bad|exact Vl.val _|apply Vl.rc|split
theorem Pi{v:V}:Vl (wJ v):=by
 unfold wJ
 repeat' first|exact Vl.bad|exact Vl.val _|apply Vl.rc|split
theorem QP{fn:Fn}{fs vs:List V}:Vl (EC fn fs vs):=by
 unfold EC
 repeat' first|exact Vl.bad|exact Vl.val _|apply Vl.rc|split
theorem VJ{g:Bool}{s:Nat}{v:V}{o:Nat}:Vl (ldS g s v o []):=by
 unfold ldS
 repeat' first|exact Vl.bad|exact Vl.val _|apply Vl.rc|split
theorem OA{s:TypeId}{f:Nat}{x:V}:Vl (Cw P s f x):=by
 unfold Cw
 repeat' first|exact Vl.bad|exact VJ|apply Vl.rc|split
theorem OD{t:TypeId}{x i:V}:Vl (Cy P t x i):=by
 unfold Cy GA Gz
 repeat' first|exact Vl.bad|exact Vl.val _|exact VJ|apply Vl.rc|split
theorem OF{t:TypeId}{v:V}:Vl (kLen P t v):=by
 unfold kLen
 repeat' first|exact Vl.bad|exact Vl.val _|apply Vl.rc|split
theorem q3a{t:TypeId}{v:V}:Vl (kCap P t v):=by
 unfold kCap
 repeat' first|exact Vl.bad|exact Vl.val _|apply Vl.rc|split
theorem VK{b:Bool}{x y:V}:Vl (AB b x y):=by
 unfold AB
 repeat' first|exact Vl.bad|exact Vl.val _|apply Vl.rc|split
theorem Tg(op:Op):cls P op<=3:=by
 unfold cls;split<;>first|omega|(split<;>omega)
theorem kop0{op:Op}(h:cls P op=0):Vl (kop P e m d op):=by
 cases op with
 |move x=>exact QQ
 |assign x=>exact QQ
 |binOp op t x y t'=>exact E3
 |unOp op t x=>exact Yw (P:=P)
 |fieldAddr s x f=>exact OB
 |indexAddr t x y=>exact OE
 |extract x i=>exact SH
 |build t ps=>exact Oz
 |pick c x y=>exact QR
 |makeMap t r=>cases r<;>cases h
 |convert s t x=>
  show Vl (wo P m s t (qa e x));unfold wo;simp only[cls]at h;split at h
  .rename_i k hk;first|exact Ku|(rw[hk];exact Ku)
  .cases h
 |slice t x lo hi mx=>
  cases mx with
  |none=>exact CM
  |some z=>exact Vl.bad
 |nilCheck x=>exact Pi
 |makeFunc fn fs cs=>exact QP
 |field s x f=>exact OA
 |index t x y=>exact OD
 |call c=>
  obtain⟨cl,xs,ts⟩:=c
  cases cl with
  |builtin b=>
   show Vl (zo P b ts.toList (evs e xs.toList) m d);unfold zo;cases b<;>first|(exfalso;revert h;simp[cls];done)|skip
   all_goals simp only
   all_goals split<;>first|exact Vl.bad|exact OF|exact q3a|exact VK
  |_=>cases h
 |_=>cases h
theorem kop1{op:Op}(h:cls P op=1):Nw (kop P e m d op):=by
 cases op with
 |makeMap t r=>
  cases r with
  |none=>first|exact Nw.bad|(show Nw (B8 P t d);unfold B8;split<;>first|exact Nw.nw _ _|exact Nw.bad)
  |some z=>cases h
 |convert s t x=>simp only[cls]at h;split at h<;>cases h
 |alloc t=>show Nw (Cu P t d);unfold Cu;exact Nw.rc (Nw.nw _ _) Nw.bad
 |box t x=>show Nw (kBox d (qa e x));unfold kBox;exact Nw.rc Nw.bad (Nw.nw _ _)
 |buildSlice t n ps=>
  show Nw (zb P t n _ _ d);unfold zb
  repeat' first|exact Nw.bad|exact Nw.nw _ _|apply Nw.rc|split
 |makeSlice t x y=>
  show Nw (zE P t _ _ d);unfold zE
  repeat' first|exact Nw.bad|exact Nw.nw _ _|apply Nw.rc|split
 |call c=>
  obtain⟨cl,xs,ts⟩:=c
  cases cl with
  |builtin b=>exfalso;revert h;cases b<;>simp[cls]
  |_=>cases h
 |_=>cases h
theorem kop2{op:Op}(h:cls P op=2):kop P e m d op=rdO P e m op:=by
 cases op with
 |makeMap t r=>cases r<;>cases h
 |convert s t x=>simp only[cls]at h;split at h<;>cases h
 |load t x=>rfl
 |lookup t x y c=>rfl
 |call c=>
  obtain⟨cl,xs,ts⟩:=c
  cases cl with
  |builtin b=>exfalso;revert h;cases b<;>simp[cls]
  |_=>cases h
 |_=>cases h
theorem Lq{rc:FuncId->List V->S->RO}{s:S}{op:Op}(h:cls P op<3):zG rc P e s op=ap s (kop P e s.m s.nx op):=by
 cases op with
 |call c=>
  obtain⟨cl,xs,ts⟩:=c
  cases cl with
  |value f=>exact absurd h (Nat.lt_irrefl 3)
  |builtin b=>rfl
  |_=>exact absurd h (Nat.lt_irrefl 3)
 |_=>rfl
def ptrK(p:V):Option Key:=match p with| .pp k _=>some k| .ee k _ _ _=>some k|_=>none
theorem U7{t:TypeId}{v:V}{o:Nat}{ks:List (Key×KB)}:ldV P t v o ks= .bad\/ ∃w,ldV P t v o ks= .val w ks:=by
 unfold ldV;split
 .rename_i g s _
  unfold ldG
  cases hc:Nat.beq o 0&&Nat.beq s v.size&&xorB g v.on with
  |true=>exact .inr ⟨v,rfl⟩
  |false=>
   simp only;unfold ldS;split
   .split
    .exact .inl rfl
    .exact .inr ⟨_,rfl⟩
   .exact .inl rfl
 .exact .inl rfl
theorem Pb{t:TypeId}{p:V}(h:(jY P m t p).res≠ .und): ∃k b,ptrK p=some k/\mget m k=some b/\jY P m t p= .val (jY P m t p).res [(k,b)]:=by
 have key: ∀{k:Key}{b:KB}{v:V}{o:Nat}{r:KR},r=ldV P t v o [(k,b)]->r.res≠ .und->r= .val r.res [(k,b)]:=by
  intro k b v o r hr hne;rcases U7 (P:=P) (t:=t) (v:=v) (o:=o) (ks:=[(k,b)])with h|⟨w,h⟩
  .rw[h]at hr;subst hr;exact absurd rfl hne
  .rw[h]at hr;subst hr;rfl
 unfold jY at h⊢;split at h
 .rename_i k o
  split at h
  .rename_i v hb
   exact⟨k,_,rfl,hb,key rfl h⟩
  .exact absurd rfl h
 .rename_i k i o w
  split at h
  .rename_i es n q hb
   cases hc:Nat.beq w es&&Nat.blt i n with
   |false=>rw[hc]at h;exact absurd rfl h
   |true=>rw[hc]at h;exact⟨k,_,rfl,hb,key rfl h⟩
  .rename_i es n q hb
   cases hc:Nat.beq w es&&Nat.blt i n with
   |false=>rw[hc]at h;exact absurd rfl h
   |true=>rw[hc]at h;exact⟨k,_,rfl,hb,key rfl h⟩
  .exact absurd rfl h
 .exact absurd rfl h
def rdK(e:Env16)(op:Op):Option Key:=match op with
 | .load t x=>ptrK (qa e x)
 | .lookup t x y c=>(match qa e x with| .mm k=>some k|_=>none)
 |_=>none
theorem WO{m:qM}{t:TypeId}{c:Bool}{u v:V}:(vn P m t c u v).res≠ .und-> ∃k b,(match(generalizing:=false) u with| .mm k=>some k|_=>none)=some k/\mget m k=some b/\vn P m t c u v= .val (vn P m t c u v).res [(k,b)]:=by
 intro h;cases u<;>first|exact absurd rfl h|skip
 rename_i k;refine⟨k,?_⟩;unfold vn at h⊢;simp only at h⊢;split at h
 .rename_i s l s' et hb hs
  refine⟨.mp s l,(by simp),hb,?_⟩
  cases hc:(Nat.beq s s'&&kOkB s v)with
  |false=>rw[hc]at h;exact absurd rfl h
  |true=>
   rw[hc]at h;simp only at h⊢;split
   .rfl
   .rename_i hf
    rw[hf]at h;simp only at h
    cases hz:isU (zeroV P et)with
    |true=>rw[hz]at h;exact absurd rfl h
    |false=>rfl
 .exact absurd rfl h
theorem ET{e:Env16}{m:qM}{op:Op}(h:(rdO P e m op).res≠ .und): ∃k b,rdK e op=some k/\mget m k=some b/\rdO P e m op= .val (rdO P e m op).res [(k,b)]:=by
 cases op with
 |load t x=>exact Pb h
 |lookup t x y c=>
  have h:(vn P m t c (qa e x) (qa e y)).res≠ .und:=h;show∃k b,(match(generalizing:=false) qa e x with| .mm k=>some k|_=>none)=some k/\mget m k=some b/\vn P m t c (qa e x) (qa e y)= .val (vn P m t c (qa e x) (qa e y)).res [(k,b)];exact WO h
 |_=>exact absurd rfl h
theorem wX: ∀(z:List Key)(m:qM)(k:Key),mget (rmK m z) k=if k∈z then none else mget m k
 |[],m,k=>by simp[rmK]
 |a::z,m,k=>by
  have:=wX z (mset m a none) k;show mget (rmK (mset m a none) z) k=_;rw[this,vu];by_cases h1:k∈z
  .simp[h1]
  .by_cases h2:a=k
   .subst h2;simp
   .have: ¬k=a:=λh=>h2 h.symm
    simp[h1,h2,this]
theorem Ba(m0:qM): ∀(z:List Key)(m:qM)(k:Key),mget (reK m0 m z) k=if k∈z/\mget m0 k≠none then mget m0 k else mget m k
 |[],m,k=>by simp[reK]
 |a::z,m,k=>by
  cases ha:mget m0 a with
  |none=>
   have e1:reK m0 m (a::z)=reK m0 m z:=by unfold reK;rw[List.foldl_cons,ha]
   rw[e1,Ba m0 z m k];by_cases h2:k=a
   .subst h2;simp[ha]
   .simp[h2]
  |some b=>
   have e1:reK m0 m (a::z)=reK m0 (mset m a (some b)) z:=by unfold reK;rw[List.foldl_cons,ha]
   rw[e1,Ba m0 z _ k,vu];by_cases h2:a=k
   .subst h2;simp[ha]
   .have h3: ¬k=a:=λh=>h2 h.symm
    simp[h2,h3]
end
theorem Dx: ∀{l:List Operand}{ℓ:Nat},ℓ∈jh l-> ∃t,ℓ=2*t/\Operand.tmp t∈l
 |[],ℓ,h=>by simp[jh]at h
 |x::l,ℓ,h=>by
  cases x with
  |tmp t=>
   simp only[jh,q5d]at h;rcases h with h|h
   .exact⟨t,h,by simp⟩
   .obtain⟨t',h1,h2⟩:=Dx h;exact⟨t',h1,by simp[h2]⟩
  |_=>
   simp only[jh]at h;obtain⟨t',h1,h2⟩:=Dx h;exact⟨t',h1,by simp[h2]⟩
theorem Cr{all:List Oper}{o:Oper}{ℓ:Nat}(h:ℓ∈gslK all o.guard): ∃t,ℓ=2*t/\t∈slB all o:=by
 unfold gslK at h;split at h
 .simp at h
 .rename_i j w hg
  split at h
  .rename_i t ht
   simp at h;refine⟨t,h,?_⟩;unfold slB;rw[hg];simp only[q5c];refine .inr ?_
   cases ha:all[j]? with
   |none=>rw[ha]at ht;cases ht
   |some o'=>
    rw[ha]at ht;have:qA all j=o':=by simp[qA,q4X,ha]
    rw[this];have ht:o'.dst=some t:=ht;rw[ht];simp
  .simp at h
theorem Dg{all:List Oper}{o:Oper}{ℓ:Nat}(h:ℓ∈jh o.op.operands.toList): ∃t,ℓ=2*t/\t∈slB all o:=by
 obtain⟨t,h1,h2⟩:=Dx h;refine⟨t,h1,?_⟩;unfold slB;exact q5c.2 (.inl (List.mem_filterMap.2 ⟨_,h2,rfl⟩))
theorem GoodK.congr{P:Program}{E:Env}{ops:Array Oper}{i:Nat}{p:PI}{al:Nat->XV->Prop}{lo hi:Nat}{σ σ':FS}(h:GoodK P E ops i p al lo hi σ)(he: ∀ℓ∈p.rd,σ' ℓ=σ ℓ):GoodK P E ops i p al lo hi σ':=
 λτ hs hτ=>h τ hs λℓ hℓ=>by rw[<-he ℓ hℓ];exact hτ ℓ hℓ
theorem GoodK.hi{P:Program}{E:Env}{ops:Array Oper}{i:Nat}{p:PI}{al:Nat->XV->Prop}{lo hi hi':Nat}{σ:FS}(h:GoodK P E ops i p al lo hi σ)(hh:hi=hi'):GoodK P E ops i p al lo hi' σ:=hh▸h
structure SI (D : List Int) (P : Program) (E : Env) (ops : Array Oper) (i : Nat) (o : Oper) (e : Env16) (s : S) (e1 : Env16) (s1 : S) (z : List Key) (p : PI) (al : Nat -> XV -> Prop) : Prop where
 good : GoodK P E ops i p al s.nx.num s1.nx.num (qt D e s.m)
 upd : (qt D e s.m).upd p.W = qt D e1 s1.m
 rd : ∀ ℓ ∈ p.rd, (∃ t, ℓ = 2 * t /\ t ∈ slB ops.toList o) \/ ∃ k b, mget (rmK s.m z) k = some b /\ ℓ = 2 * k.num + 1 /\ 2 <= cls P o.op /\
  (cls P o.op = 2 -> jg ops.toList e o.guard = some true /\ rdK e o.op = some k /\
   ∀ (m' : qM) b' w, (∀ k b, mget m' k = some b -> b.ok) -> (rdO P e (rmK s.m z) o.op).res = w -> w ≠ .und -> (rdO P e m' o.op).res = w -> mget m' k = some b' -> al ℓ (.bl (b'.blk D)))
 wr : ∀ ℓ, look p.W ℓ ≠ none -> (∃ t, o.dst = some t /\ ℓ = 2 * t) \/ ∃ k : Key, ℓ = 2 * k.num + 1 /\ ((cls P o.op = 1 /\ k = s.nx /\ s1.nx.num = s.nx.num + 1) \/ (cls P o.op = 3 /\ (mget (rmK s.m z) k ≠ none \/ (s.nx.num <= k.num /\ k.num < s1.nx.num))))
 str : ∀ ℓ x, look p.W ℓ = some (some x) -> XStr ℓ x
section
variable {D:List Int} {P:Program} {rc:FuncId->List V->S->RO}
theorem mem1{α β:Type}{f:α->Nat}{a:α}{kin:List (Nat×β)}(h:kin.map (·.1)=[f a]): ∃b,kin=[(f a,b)]:=by
 match kin,h with
 |[(x,b)],h=>simp at h;subst h;exact⟨b,rfl⟩
theorem Kq (hrc : RcOk D P rc) {E : Env} {ops : Array Oper} {i n : Nat} {o : Oper} {lo : Nat} {e e1 : Env16} {s s1 : S} {z : List Key} (ho : ops[i]? = some o) (hn : E.n = n) (hdk : zn n o = true) (he : EOK D E lo e s)
  (h : Di rc P ops.toList z o e s e1 s1) : EOK D E lo e1 s1 /\ s.nx.num <= s1.nx.num /\ ∃ p al, SI D P E ops i o e s e1 s1 z p al := by
 have hd : ∀ t, o.dst = some t -> t < E.n /\ t < 512 := λt ht => by
  unfold zn at hdk;rw [ht] at hdk;simp only [q4L] at hdk;rw [hn];exact ⟨by simpa using hdk.1, by simpa using hdk.2⟩
 rcases h with ⟨hg, rfl, rfl⟩ | ⟨hg, v, s2, hrun, rfl, rfl⟩
 .have hW : (qt D e s1.m).upd (Wof o.dst (qc D (.tu [])) []) = qt D (jd e o.dst (.tu [])) s1.m := by
   have := I2 (D := D) (e := e) (m := s1.m) (d := s1.nx) (r := .val (.tu []) []) (dst := o.dst) (v := .tu []) (by simp) (λt ht => (hd t ht).2) (λ_ _ _ _ h => by cases h);exact this
  refine ⟨⟨Df (λt ht => (hd t ht).2) he.slots (λx hx => by simp at hx), he.sok, he.le, he.ks, he.old⟩, q5B _, _, noAl, L0 ho hg (λt ht => (hd t ht).1), hW, λℓ hℓ => .inl (Cr hℓ), λℓ hℓ => ?_, λℓ x hx => JC (D := D) (by simp) (λk b h => by cases h) hx⟩;rcases Aw hℓ with h | ⟨k, _, h⟩
  .exact .inl h
  .exact absurd rfl h
 .-- the memory that is seen
  have hz : EOK D E lo e ⟨rmK s.m z, s.nx, s.dn, s.sc⟩ := by
   refine ⟨he.slots, ⟨λk b hb => ?_, λk hk => ?_, he.sok.agr⟩, he.le, he.ks, λk hk => ?_⟩
   .rw [wX] at hb
    split at hb
    .cases hb
    .exact he.sok.ok k b hb
   .rw [wX] at hk
    split at hk
    .exact absurd rfl hk
    .exact he.sok.lt k hk
   .rw [wX] at hk
    split at hk
    .exact absurd rfl hk
    .exact he.old k hk
  have hseen : ∀ k b, mget (rmK s.m z) k = some b -> mget s.m k = some b := λk b hb => by
   rw [wX] at hb;split at hb
   .cases hb
   .exact hb
  have hpres : ∀ k, k ∈ z -> mget s.m k ≠ none -> k.num < s.nx.num := λk _ hk => he.sok.lt k hk
  -- the end
  have hend : ∀ (p : PI), (qt D e (rmK s.m z)).upd p.W = qt D (jd e o.dst v) s2.m -> FP ops.toList o p ⟨rmK s.m z, s.nx, s.dn, s.sc⟩ s2 -> (qt D e s.m).upd p.W = qt D (jd e o.dst v) (reK s.m s2.m z) := by
   intro p hp hf;funext ℓ;have h1 := congrFun hp ℓ;rcases q5J ℓ with h2 | h2
   .obtain ⟨t, rfl⟩ : ∃ t, ℓ = 2 * t := ⟨ℓ / 2, by omega⟩
    rw [qL] at h1 ⊢;rw [<- h1];unfold FS.upd;split
    .rfl
    .rw [qL, qL]
   .obtain ⟨q, rfl⟩ : ∃ q, ℓ = 2 * q + 1 := ⟨ℓ / 2, by omega⟩
    rw [qj] at h1 ⊢;by_cases hq : ∃ k : Key, k.num = q
    .obtain ⟨k, rfl⟩ := hq
     rw [vt] at h1 ⊢;rw [Ba];by_cases hk : k ∈ z /\ mget s.m k ≠ none
     .rw [if_pos hk]
      have hnone : look p.W (2 * k.num + 1) = none := by
       cases hl : look p.W (2 * k.num + 1) with
       | none => rfl
       | some x =>
        rcases hf.wr _ (by rw [hl]; simp) with ⟨t, _, h3⟩ | ⟨k', h3, h4⟩
        .omega
        .have e3 : k' = k := Key.num_inj (by omega)
         subst e3;rcases h4 with h4 | ⟨h4, _⟩
         .simp only [wX, hk.1, if_true] at h4; exact absurd rfl h4
         .have := hpres k' hk.1 hk.2; simp only at h4; omega
      simp only [FS.upd, hnone];rw [qj, vt]
     .rw [if_neg hk, <- h1]
      unfold FS.upd;split
      .rfl
      .rw [qj, qj, vt, vt, wX]
       split
       .rename_i hkz
        have : mget s.m k = none := by
         cases hm : mget s.m k with
         | none => rfl
         | some b => exact absurd ⟨hkz, by rw [hm]; simp⟩ hk
        rw [this]
       .rfl
    .have hno : ∀ m : qM, mblk m q = none := λm => by unfold mblk; rw [dif_neg hq]
     rw [hno] at h1 ⊢;rw [<- h1];unfold FS.upd;split
     .rfl
     .rw [qj, qj, hno, hno]
  have heok : EOK D E lo (jd e o.dst v) s2 -> s.nx.num <= s2.nx.num -> EOK D E lo (jd e o.dst v) ⟨reK s.m s2.m z, s2.nx, s2.dn, s2.sc⟩ := by
   intro h2 hle;refine ⟨h2.slots, ⟨λk b hb => ?_, λk hk => ?_, h2.sok.agr⟩, h2.le, h2.ks, λk hk => ?_⟩
   .simp only [Ba] at hb
    split at hb
    .exact he.sok.ok k b hb
    .exact h2.sok.ok k b hb
   .simp only [Ba] at hk
    split at hk
    .have := he.sok.lt k hk; simp only; omega
    .exact h2.sok.lt k hk
   .simp only [Ba] at hk
    split at hk
    .exact he.old k hk
    .exact h2.old k hk
  have hrdc : ∀ (p : PI), FP ops.toList o p ⟨rmK s.m z, s.nx, s.dn, s.sc⟩ s2 -> ∀ ℓ ∈ p.rd, qt D e s.m ℓ = qt D e (rmK s.m z) ℓ := by
   intro p hf ℓ hℓ;rcases hf.rd ℓ hℓ with ⟨t, rfl, _⟩ | ⟨k, b, hb, rfl⟩
   .rw [qL, qL]
   .rw [qj, qj, vt, vt, hb, hseen k b hb]
  rcases q5F (cls P o.op) 3 with hc | hc
  .rw [Lq hc] at hrun
   have hkk : jj D P o.op o.type o.op.operands.toList (o.op.operands.toList.map (qa e)) (rmK s.m z) s.nx (kop P e (rmK s.m z) s.nx o.op) := Nr o.op;obtain ⟨q1, q2, q3, q4, q5, q6, q7, q8⟩ := Kl (s := ⟨rmK s.m z, s.nx, s.dn, s.sc⟩) ho hn hdk hg hz hkk hrun;have h3 := heok q3 q4;by_cases hc2 : cls P o.op = 2
   .-- a load
    have hkl : kop P e (rmK s.m z) s.nx o.op = rdO P e (rmK s.m z) o.op := kop2 hc2;have hres : (rdO P e (rmK s.m z) o.op).res ≠ .und := by rw [<- hkl, <- q6]; exact q7
    obtain ⟨k, b, hpk, hmk, hsh⟩ := ET hres;have hkv : kop P e (rmK s.m z) s.nx o.op = .val v [(k, b)] := by rw [hkl, hsh, q6, hkl]
    have hval : ap ⟨rmK s.m z, s.nx, s.dn, s.sc⟩ (kop P e (rmK s.m z) s.nx o.op) = .ok v ⟨rmK s.m z, s.nx, s.dn, s.sc⟩ := by rw [hkv]; rfl
    rw [hval] at hrun;have hs2 : s2 = ⟨rmK s.m z, s.nx, s.dn, s.sc⟩ := by injection hrun with h1 h2; exact h2.symm
    rw [hkv] at q2 q5;let al : Nat -> XV -> Prop := λℓ X => ∃ (m' : qM) (b' : KB), (∀ k b, mget m' k = some b -> b.ok) /\ rdO P e m' o.op = .val v [(k, b')] /\ ℓ = 2 * k.num + 1 /\ X = .bl (b'.blk D)
    have hopk : ∀ (m' : qM) (b' : KB), (∀ k b, mget m' k = some b -> b.ok) -> rdO P e m' o.op = .val v [(k, b')] ->
      OpK P o.op o.type (List.zip o.op.operands.toList (o.op.operands.toList.map λx => qc D (qa e x))) [(k.num, b'.blk D)] (qc D v) [] s.nx.num := by
     intro m' b' hm' hl;have hk2 : jj D P o.op o.type o.op.operands.toList (o.op.operands.toList.map (qa e)) m' s.nx (kop P e m' s.nx o.op) := Nr o.op;have e2 : kop P e m' s.nx o.op = .val v [(k, b')] := by rw [<- hl]; exact kop2 hc2
     rw [e2] at hk2;obtain ⟨_, _, k3, _, _, _⟩ := hk2 (by simp) (λy hy => by obtain ⟨w, _, rfl⟩ := List.mem_map.1 hy; exact Fl hz.slots w) hm';rw [show (o.op.operands.toList.map λx => qc D (qa e x)) = (o.op.operands.toList.map (qa e)).map (qc D) by rw [List.map_map]; rfl];exact k3
    have hbase : rdO P e (rmK s.m z) o.op = .val v [(k, b)] := by rw [<- hkl]; exact hkv
    have hfr := Hw hz.sok;obtain ⟨k1, _, _, _, _, _⟩ := hkk (by rw [hkv]; simp) (λy hy => by obtain ⟨w, _, rfl⟩ := List.mem_map.1 hy; exact Fl hz.slots w) hz.sok.ok
    have hgood := Nc (D := D) (E := E) (al := al) (hi := s2.nx.num) (d := s.nx) (r := .val v [(k, b)]) ho hg (λt ht => (hd t ht).1) (λℓ X ⟨_, _, _, _, h, _⟩ => by omega) (λy hy => k1 _ (List.mem_map.2 ⟨y, hy, rfl⟩)) (m := rmK s.m z) (λp hp => by simp [KR.ks] at hp; subst hp; exact hmk) trivial hfr
     (λkin h1 h2 => by
      obtain ⟨B, rfl⟩ := mem1 (f := Key.num) (a := k) (by simpa [KR.ks] using h1);rcases h2 (k.num, B) (by simp) with h3 | ⟨m', b', h3, h4, _, h5⟩
      .rw [jT hmk] at h3
       simp only [q61, XV.bl.injEq] at h3;subst h3;exact hopk _ b hz.sok.ok hbase
      .simp only [XV.bl.injEq] at h5
       subst h5
       exact hopk m' b' h3 h4)
     (λhq => by rcases hq with ⟨_, _, _, h⟩ | ⟨_, _, _, _, h⟩ <;> cases h) (λk hk => q5E (he.ks k hk) he.le)
    refine ⟨h3, by rw [hs2]; exact q5B _, _, al, hgood.congr (hrdc _ q5), hend _ q2 q5, λℓ hℓ => ?_, λℓ hℓ => ?_, q5.str⟩
    .rcases q5.rd ℓ hℓ with ⟨t', rfl, h4⟩ | ⟨k', b', hb', rfl⟩
     .rcases h4 with h4 | h4
      .exact .inl (Cr h4)
      .exact .inl (Dg h4)
     .have hk' : k' = k := by
       simp only [q5c, KR.ks, q5b, List.map_nil, q5j] at hℓ;rcases hℓ with (h4 | h4) | h4
       .obtain ⟨t', ht⟩ := Ft h4; omega
       .obtain ⟨t', ht⟩ := jS h4; omega
       .exact Key.num_inj (by omega)
      subst hk';refine .inr ⟨k', b', hb', rfl, by omega, λ_ => ⟨hg, hpk, λm' b2 w hm' hw hwn hl hmb => ?_⟩⟩;have hwv : w = v := by rw [<- hw, hbase]; rfl
      subst hwv;obtain ⟨k3, b3, g1, g2, g3⟩ := ET (P := P) (e := e) (m := m') (op := o.op) (by rw [hl]; exact hwn);rw [hpk] at g1; cases g1
      rw [hmb] at g2; cases g2
      exact ⟨m', b2, hm', by rw [g3, hl], rfl, rfl⟩
    .rcases Aw hℓ with h4 | ⟨q, _, h4⟩
     .exact .inl h4
     .exact absurd rfl h4
   .by_cases hc1 : cls P o.op = 1
    .rcases kop1 (P := P) (e := e) (m := rmK s.m z) (d := s.nx) hc1 with hb | ⟨v', b, hb⟩
     .rw [hb] at hrun; cases hrun
     .obtain ⟨_, _, _, _, _, a6, _⟩ := XQ (D := D) hrun
      have hnx := a6 (.inl ⟨v', [], b, hb⟩);rw [hb] at q1 q2 q5;refine ⟨h3, q4, _, noAl, q1.congr (hrdc _ q5), hend _ q2 q5, λℓ hℓ => ?_, λℓ hℓ => ?_, q5.str⟩
      .simp only [q5c, KR.ks, List.map_nil, q5l, or_false] at hℓ
       rcases hℓ with h4 | h4
       .exact .inl (Cr h4)
       .exact .inl (Dg h4)
      .rcases Aw hℓ with h4 | ⟨q, rfl, h4⟩
       .exact .inl h4
       .rcases Ny h4 with ⟨_, _, _, _, h5, _⟩ | ⟨rfl, _⟩
        .rcases h5 with h5 | h5 <;> cases h5
        .exact .inr ⟨s.nx, rfl, .inl ⟨hc1, rfl, hnx⟩⟩
    .have hc0 : cls P o.op = 0 := by omega
     rcases kop0 (P := P) (e := e) (m := rmK s.m z) (d := s.nx) hc0 with hb | ⟨v', hb⟩
     .rw [hb] at hrun; cases hrun
     .rw [hb] at q1 q2 q5
      refine ⟨h3, q4, _, noAl, q1.congr (hrdc _ q5), hend _ q2 q5, λℓ hℓ => ?_, λℓ hℓ => ?_, q5.str⟩
      .simp only [q5c, KR.ks, List.map_nil, q5l, or_false] at hℓ
       rcases hℓ with h4 | h4
       .exact .inl (Cr h4)
       .exact .inl (Dg h4)
      .rcases Aw hℓ with h4 | ⟨q, rfl, h4⟩
       .exact .inl h4
       .exact absurd rfl h4
  .have hc3 : cls P o.op = 3 := by have := Tg (P := P) o.op; omega
   obtain ⟨p, q1, q2, q3, q4, q5⟩ := Oa hrc (s := ⟨rmK s.m z, s.nx, s.dn, s.sc⟩) ho hn hdk hg hz hrun;have h3 := heok q3 q4;refine ⟨h3, q4, p, noAl, q1.congr (hrdc p q5), hend p q2 q5, λℓ hℓ => ?_, λℓ hℓ => ?_, q5.str⟩
   .rcases q5.rd ℓ hℓ with ⟨t', rfl, h4⟩ | ⟨k', b', hb', rfl⟩
    .rcases h4 with h4 | h4
     .exact .inl (Cr h4)
     .exact .inl (Dg h4)
    .exact .inr ⟨k', b', hb', rfl, by omega, λh => by omega⟩
   .rcases q5.wr ℓ hℓ with h4 | ⟨k, rfl, h4⟩
    .exact .inl h4
    .exact .inr ⟨k, rfl, .inr ⟨hc3, h4⟩⟩
theorem EQ{ops:Array Oper}{i:Nat}(h:i<ops.size):ops[i]?=some (qA ops.toList i):=by
 unfold qA;rw[q4X];have:ops.toList[i]?=ops[i]?:=by simp
 rw[this,Array.getElem?_eq_getElem h];rfl
theorem ER {M : List Nat} {u i : Nat} (hne : u ≠ i) : ordB M u i = true ↔ Ord M u i := by
  unfold ordB Ord;rcases Nat.lt_trichotomy u i with h | h | h
  · have hb : Nat.blt u i = true := by simpa using h
    rw [hb]; simp only [cond_true]
    exact ⟨λh2 => .inl ⟨h, h2⟩, λh2 => h2.elim (λh3 => h3.2) (λh3 => by omega)⟩
  · exact absurd h hne
  · have hb : Nat.blt u i = false := by
      cases hq : Nat.blt u i with
      | false => rfl
      | true => have : u < i := by simpa using hq
                omega
    rw [hb]; simp only [cond_false]
    exact ⟨λh2 => .inr ⟨h, h2⟩, λh2 => h2.elim (λh3 => by omega) (λh3 => h3.2)⟩
theorem Ux{M:List Nat}{u i:Nat}(hne:u≠i):ordB M u i=ordB M i u:=by
 have h1:=ER (M:=M) hne;have h2:=ER (M:=M) (Ne.symm hne);have h3:Ord M u i↔Ord M i u:=by unfold Ord;exact⟨λh=>h.symm,λh=>h.symm⟩
 cases ha:ordB M u i<;>cases hb:ordB M i u<;>simp_all
theorem G8{all:List Oper}{M:List Nat}(h:EZ P all M=true){u i:Nat}(hu:u<i)(hi:i<all.length)(hno:ordB M u i=false):
  (∀t∈slB all (qA all i),∀t',(qA all u).dst=some t'->t'≠t)/\(∀t∈slB all (qA all u),∀t',(qA all i).dst=some t'->t'≠t)/\(∀t,(qA all u).dst=some t->(qA all i).dst≠some t)/\ ¬(cls P (qA all u).op=3/\cls P (qA all i).op=3):=by
 unfold EZ at h;rw[q4L]at h;have h2:=List.all_eq_true.1 (List.all_eq_true.1 h.2 i (List.mem_range.2 hi)) u (List.mem_range.2 hu);unfold Ys at h2;rw[hno]at h2;simp only[Bool.false_or,q4L]at h2;obtain⟨⟨⟨a,b⟩,c⟩,d⟩:=h2
 have hdst: ∀(o:Oper) t t',(!dstB o t)=true->o.dst=some t'->t'≠t:=by
  intro o t t' h1 h2 h3;subst h3;unfold dstB at h1;rw[h2]at h1;simp at h1
 refine⟨λt ht t' h3=>hdst _ t t' (List.all_eq_true.1 a t ht) h3,λt ht t' h3=>hdst _ t t' (List.all_eq_true.1 b t ht) h3,λt h3 h4=>?_,λh3=>?_⟩
 .rw[h3]at c
  exact hdst _ t t c h4 rfl
 .rw[h3.1,h3.2]at d;cases d
theorem q0G{all:List Oper}{M:List Nat}{u i:Nat}(hi:2<=cls P (qA all i).op)(hu:u<i)(hc:cls P (qA all u).op=1)(hno:ordB M u i=false):u∈unz P all M i:=by
 unfold unz
 have:Nat.ble (cls P (qA all i).op) 1=false:=by
  cases h:Nat.ble (cls P (qA all i).op) 1 with
  |false=>rfl
  |true=>have:=q5y h;omega
 rw[this,cond_false,q5g];refine⟨List.mem_range.2 hu,?_⟩;rw[hc,hno];rfl
theorem q0m (hrc : RcOk D P rc) (hm : P.follows .mixedOrders = true) {E : Env} {ops : Array Oper} {n lo U : Nat} (hn : E.n = n) (hds : ∀ o ∈ ops.toList, zn n o = true) {e e' : Env16} {s s' : S} {x : X} (h : runD rc P ops.toList e s = .ok x e' s') (he : EOK D E lo e s) (hU : s'.nx.num <= U) :
    x = .nrm /\ EOK D E lo e' s' /\ s.nx.num <= s'.nx.num /\ ∀ (id : Nat) a w H β, Rel D E lo U e s a w H β -> (Code.region id ops true).wp P (Ag D E lo U .nrm e' s') a w := by
  unfold runD at h;split at h
  rotate_left
  · cases h
  rename_i hex;have hd := Classical.choose_spec hex;generalize Classical.choose hex = pq at h hd;obtain ⟨e2, s2⟩ := pq;obtain ⟨es, ss, hd⟩ := hd;cases h;simp only at hd;have hU : s2.nx.num <= U := hU;show X.nrm = .nrm /\ EOK D E lo e2 s2 /\ s.nx.num <= s2.nx.num /\ ∀ (id : Nat) a w H β, Rel D E lo U e s a w H β -> (Code.region id ops true).wp P (Ag D E lo U .nrm e2 s2) a w;have hlen : ops.toList.length = ops.size := by simp
  generalize hM : masks 0 ops.toList [] = M at *;have hst := hd.stat;have hstep := hd.step;have hload := hd.load;rw [hM] at hst hload;rw [hM, hlen] at hstep;have h0 := hd.e0;have h0s := hd.s0;have hen := hd.en;have hsn := hd.sn;rw [hlen] at hen hsn;have hopm : ∀ i, i < ops.size -> zn n (qA ops.toList i) = true := λi hi => hds _ (q5h (l := ops.toList) (i := i) (by have := EQ hi; simpa using this))
  -- the states on the way
  have hE : ∀ i, i <= ops.size -> EOK D E lo (es i) (ss i) := by
    intro i
    induction i with
    | zero => intro _; rw [h0, h0s]; exact he
    | succ i ih => intro hi; exact (Kq hrc (EQ (by omega)) hn (hopm i (by omega)) (ih (by omega)) (hstep i (by omega))).1
  have hnx1 : ∀ i, i < ops.size -> (ss i).nx.num <= (ss (i + 1)).nx.num := λi hi => (Kq hrc (EQ hi) hn (hopm i hi) (hE i (by omega)) (hstep i hi)).2.1
  have hmono : ∀ i j, i <= j -> j <= ops.size -> (ss i).nx.num <= (ss j).nx.num := by
    intro i j hij
    induction j with
    | zero => intro _; have : i = 0 := by omega
              subst this; exact q5B _
    | succ j ih =>
      intro hj;by_cases e : i = j + 1
      · subst e; exact q5B _
      · exact q5C (ih (by omega) (by omega)) (hnx1 j (by omega))
  have hSI : ∀ i, ∃ q : PI × (Nat -> XV -> Prop), (i < ops.size -> SI D P E ops i (qA ops.toList i) (es i) (ss i) (es (i + 1)) (ss (i + 1)) (zOf P ss ops.toList M i) q.1 q.2) /\ (¬ i < ops.size -> q.1 = ⟨[], [], [], [], none⟩) := by
    intro i;by_cases hi : i < ops.size
    · obtain ⟨_, _, p, al, h⟩ := Kq hrc (EQ hi) hn (hopm i hi) (hE i (by omega)) (hstep i hi)
      exact ⟨(p, al), λ_ => h, λh => absurd hi h⟩
    · exact ⟨(⟨[], [], [], [], none⟩, noAl), λh => absurd h hi, λ_ => rfl⟩
  let pl : Nat -> PI := λi => (Classical.choose (hSI i)).1
  let al : Nat -> Nat -> XV -> Prop := λi => (Classical.choose (hSI i)).2
  have hS : ∀ i, i < ops.size -> SI D P E ops i (qA ops.toList i) (es i) (ss i) (es (i + 1)) (ss (i + 1)) (zOf P ss ops.toList M i) (pl i) (al i) := λi hi => (Classical.choose_spec (hSI i)).1 hi
  have hS0 : ∀ i, ¬ i < ops.size -> pl i = ⟨[], [], [], [], none⟩ := λi hi => (Classical.choose_spec (hSI i)).2 hi
  have hev : ∀ i, i <= ops.size -> ev pl (List.range i) (qt D e s.m) = qt D (es i) (ss i).m := by
    intro i
    induction i with
    | zero => intro _; rw [h0, h0s]; rfl
    | succ i ih =>
      intro hi;rw [PC, ih (by omega)];exact (hS i (by omega)).upd
  -- two operations and one block
  have hsee : ∀ i k b, mget (rmK (ss i).m (zOf P ss ops.toList M i)) k = some b -> mget (ss i).m k = some b /\ k ∉ zOf P ss ops.toList M i := by
    intro i k b hb;rw [wX] at hb;split at hb
    · cases hb
    · rename_i hk; exact ⟨hb, hk⟩
  have hlt : ∀ i k b, i <= ops.size -> mget (ss i).m k = some b -> k.num < (ss i).nx.num := λi k b hi hb => (hE i hi).sok.lt k (by rw [hb]; simp)
  have hz : ∀ u i, 2 <= cls P (qA ops.toList i).op -> u < i -> i < ops.size -> cls P (qA ops.toList u).op = 1 -> ordB M u i = false -> (ss u).nx ∈ zOf P ss ops.toList M i := λu i h0 h1 h2 h3 h4 => List.mem_map.2 ⟨u, q0G h0 h1 h3 h4, rfl⟩
  have hWrOrd : Ge ops.size pl M := by
    intro i j hij hj ℓ hi1 hj1
    cases hno : ordB M i j with
    | true =>
      have := (ER (by omega)).1 hno;rcases this with h | h
      · exact h.2
      · omega
    | false =>
      exfalso;obtain ⟨_, _, p3, p4⟩ := G8 hst hij (by omega) hno;rcases (hS i (by omega)).wr ℓ hi1 with ⟨t, h1, rfl⟩ | ⟨k, rfl, h1⟩
      · rcases (hS j hj).wr _ hj1 with ⟨t', h2, h3⟩ | ⟨k', h3, _⟩
        · have : t' = t := Nat.eq_of_mul_eq_mul_left (by decide : 0 < 2) h3.symm
          subst this;exact p3 t' h1 h2
        · omega
      · rcases (hS j hj).wr _ hj1 with ⟨t', _, h3⟩ | ⟨k', h3, h2⟩
        · omega
        · have e1 : k' = k := Key.num_inj (by omega)
          subst e1;have hm1 := hmono (i + 1) j (by omega) (by omega);rcases h1 with ⟨c1, rfl, hnx⟩ | ⟨c1, h1⟩
          · rcases h2 with ⟨c2, h2, _⟩ | ⟨c2, h2⟩
            · rw [h2] at hnx; rw [hnx] at hm1; omega
            · rcases h2 with h2 | ⟨h2, _⟩
              · cases hb : mget (rmK (ss j).m (zOf P ss ops.toList M j)) (ss i).nx with
                | none => exact h2 hb
                | some b => exact (hsee j _ b hb).2 (hz i j (by omega) hij hj c1 hno)
              · rw [hnx] at hm1; omega
          · rcases h2 with ⟨c2, rfl, _⟩ | ⟨c2, h2⟩
            · rcases h1 with h1 | ⟨_, h1⟩
              · cases hb : mget (rmK (ss i).m (zOf P ss ops.toList M i)) (ss j).nx with
                | none => exact h1 hb
                | some b =>
                  have := hlt i _ b (by omega) (hsee i _ b hb).1;have := hmono i j (by omega) (by omega);omega
              · omega
            · exact p4 ⟨c1, c2⟩
  have hRd : RdOk ops.size pl al M (qt D e s.m) := by
    intro i hi ℓ hℓ u hu hui hw hord
    have hno : ordB M u i = false := by
      cases hq : ordB M u i with
      | false => rfl
      | true => exact absurd ((ER hui).1 hq) hord
    rw [hev u (by omega), hev (u + 1) (by omega), hev i (by omega)]
    have hpair : (∀ t ∈ slB ops.toList (qA ops.toList i), ∀ t', (qA ops.toList u).dst = some t' -> t' ≠ t) /\ ¬ (cls P (qA ops.toList u).op = 3 /\ cls P (qA ops.toList i).op = 3) := by
      rcases Nat.lt_trichotomy u i with h | h | h
      · obtain ⟨p1, _, _, p4⟩ := G8 hst h (by omega) hno
        exact ⟨p1, p4⟩
      · exact absurd h hui
      · obtain ⟨_, p2, _, p4⟩ := G8 hst h (by omega) (by rw [Ux (by omega)]; exact hno)
        exact ⟨p2, λh => p4 ⟨h.2, h.1⟩⟩
    rcases (hS i hi).rd ℓ hℓ with ⟨t, rfl, ht⟩ | ⟨k, b, hb, rfl, hc, hal⟩
    · rcases (hS u hu).wr _ hw with ⟨t', h2, h3⟩ | ⟨k', h3, _⟩
      · exact absurd (Nat.eq_of_mul_eq_mul_left (by decide : 0 < 2) h3.symm : t' = t) (hpair.1 t ht t' h2)
      · omega
    · obtain ⟨hb1, hb2⟩ := hsee i k b hb
      have hkl := hlt i k b (by omega) hb1;rcases (hS u hu).wr _ hw with ⟨t', _, h3⟩ | ⟨k', h3, h2⟩
      · omega
      · have e1 : k' = k := Key.num_inj (by omega)
        subst e1;rcases h2 with ⟨c2, rfl, _⟩ | ⟨c2, h2⟩
        · exfalso
          rcases Nat.lt_trichotomy u i with h | h | h
          · exact hb2 (hz u i hc h hi c2 hno)
          · exact hui h
          · have := hmono i u (by omega) (by omega); omega
        · have hci : cls P (qA ops.toList i).op = 2 := by
            have := Tg (P := P) (qA ops.toList i).op;have : cls P (qA ops.toList i).op ≠ 3 := λh => hpair.2 ⟨c2, h⟩
            omega
          obtain ⟨hg, hpk, hall⟩ := hal hci
          have hmem : (i, u) ∈ ldP P ops.toList M := by
            unfold ldP;refine List.mem_flatMap.2 ⟨i, List.mem_range.2 (by omega), ?_⟩;rw [hci];show (i, u) ∈ List.map _ _;refine List.mem_map.2 ⟨u, q5g.2 ⟨List.mem_range.2 (by omega), ?_⟩, rfl⟩;rw [c2, hno]; rfl
          obtain ⟨w, hwn, w1, w2, w3⟩ := hload i u hmem hg
          have fin : ∀ q, q <= ops.size -> (rdO P (es i) (ss q).m (qA ops.toList i).op).res = w -> Same (al i) (2 * k'.num + 1) (qt D (es q) (ss q).m (2 * k'.num + 1)) (qt D (es i) (ss i).m (2 * k'.num + 1)) := by
            intro q hq hl;obtain ⟨k3, b3, g1, g2, g3⟩ := ET (P := P) (e := es i) (m := (ss q).m) (op := (qA ops.toList i).op) (by rw [hl]; exact hwn);rw [hpk] at g1; cases g1
            exact .inr ⟨_, hall (ss q).m b3 w (hE q hq).sok.ok w1 hwn hl g2, jT g2⟩
          exact ⟨fin u (by omega) w2, fin (u + 1) (by omega) w3⟩
  have hokM : okM ops.toList M = true := by
    unfold EZ at hst;rw [q4L] at hst; exact hst.1
  have hend := hE ops.size (q5B _);rw [hen, hsn] at hend;have hle := hmono 0 ops.size (by omega) (q5B _);rw [h0s, hsn] at hle;refine ⟨rfl, hend, hle, λid a w H β hr => ?_⟩;have hmin : ∀ i, i < ops.size -> min i ops.size = i := λi hi => by omega
  refine Xj (al := al) (lo := λi => (ss (min i ops.size)).nx.num) (hi := λi => (ss (min (i + 1) ops.size)).nx.num) hm hokM hWrOrd hRd (Ou e s.m) ?_ ?_ ?_ ?_ hr.rep ?_ ?_
  · intro j ℓ x hx
    by_cases hj : j < ops.size
    · exact (hS j hj).str ℓ x hx
    · rw [hS0 j hj] at hx; cases hx
  · intro i j hij hj
    show (ss (min (i + 1) ops.size)).nx.num <= (ss (min j ops.size)).nx.num;exact hmono _ _ (by omega) (by omega)
  · intro i
    show (ss (min i ops.size)).nx.num <= (ss (min (i + 1) ops.size)).nx.num;exact hmono _ _ (by omega) (by omega)
  · intro i hi
    show GoodK P E ops i (pl i) (al i) (ss (min i ops.size)).nx.num (ss (min (i + 1) ops.size)).nx.num _;rw [hmin i hi, show min (i + 1) ops.size = i + 1 by omega, hev i (by omega)];exact (hS i hi).good
  · intro i hi k h1 h2
    have h1 : (ss (min i ops.size)).nx.num <= k := h1;have h2 : k < (ss (min (i + 1) ops.size)).nx.num := h2;have q1 := hmono 0 (min i ops.size) (by omega) (by omega);have q2 := hmono (min (i + 1) ops.size) ops.size (by omega) (q5B _);rw [h0s] at q1;rw [hsn] at q2;exact hr.dom k (by omega) (by omega)
  · intro a' w' H' β' hrep hβ
    rw [hev ops.size (q5B _), hen, hsn] at hrep
    have hout : ∀ k, k < s.nx.num \/ s2.nx.num <= k -> β' k = β k := λk hk => hβ k λi hi => by
      show k < (ss (min i ops.size)).nx.num \/ (ss (min (i + 1) ops.size)).nx.num <= k;have q1 := hmono 0 (min i ops.size) (by omega) (by omega);have q2 := hmono (min (i + 1) ops.size) ops.size (by omega) (q5B _);rw [h0s] at q1;rw [hsn] at q2;rcases hk with hk | hk
      · exact .inl (by omega)
      · exact .inr (by omega)
    refine ⟨rfl, H', β', hrep, λk h1 h2 => ?_, λk hk => ?_⟩
    · rw [hout k (.inr h1)]; exact hr.dom k (by omega) h2
    · have : k < s.nx.num \/ s2.nx.num <= k := by
        rcases hk with hk | hk
        · exact .inl (q5E hk he.le)
        · exact .inr hk
      rw [hout k this];refine hr.bet k ?_;rcases hk with hk | hk
      · exact .inl hk
      · exact .inr (by omega)
end
end
noncomputable section
section
variable {D:List Int} {P:Program} {rc:FuncId->List V->S->RO}
theorem Ot{r:R}{k:Env16->S->R}{x:X}{e':Env16}{s':S}(h:BZ r k= .ok x e' s'):(∃e1 s1,r= .ok .nrm e1 s1/\k e1 s1= .ok x e' s')\/(r= .ok x e' s'/\x≠ .nrm):=by
 cases r with
 |no t=>cases h
 |need n=>cases h
 |ok y e1 s1=>
  cases y with
  |nrm=>exact .inl ⟨e1,s1,rfl,h⟩
  |ext i=>cases h;exact .inr ⟨rfl,by simp⟩
  |ret=>cases h;exact .inr ⟨rfl,by simp⟩
theorem Xy{r:R}{k:Env16->S->R}{x:X}{e':Env16}{s':S}(h:Mi k r= .ok x e' s'):(∃e1 s1,r= .ok .nrm e1 s1/\k e1 s1= .ok x e' s')\/(r= .ok x e' s'/\x≠ .nrm):=Ot h
theorem T9{id:Nat}{r:R}{x:X}{e':Env16}{s':S}(h:Ik id r= .ok x e' s'):(r= .ok (.ext id) e' s'/\x= .nrm)\/(r= .ok x e' s'/\x≠ .ext id):=by
 cases r with
 |no t=>cases h
 |need n=>cases h
 |ok y e1 s1=>
  cases y with
  |nrm=>cases h;exact .inr ⟨rfl,by simp⟩
  |ret=>cases h;exact .inr ⟨rfl,by simp⟩
  |ext i=>
   have h': @Bool.rec (λ_=>R) (.ok (.ext i) e1 s1) (.ok .nrm e1 s1) (Nat.beq i id)= .ok x e' s':=h
   cases hb:Nat.beq i id with
   |true=>rw[hb]at h';cases h';rw[q5w hb];exact .inl ⟨rfl,rfl⟩
   |false=>rw[hb]at h';cases h';refine .inr ⟨rfl,λe=>?_⟩;cases e;simp at hb
theorem Tp(c:Code):jV rc P (.loop c)=⟨λe s=>BU (jV rc P c).st 1000000 e s,λ_=>none⟩:=rfl
theorem N1(c:Code)(e:Env16)(s:S):den rc P (.loop c) e s=BU (den rc P c) 1000000 e s:=by unfold den;rw[Tp]
theorem Ri(c:Code):jV rc P (.scope c)=⟨λe s=>hopN (jV rc P c).fr 1000001 ((jV rc P c).st e s),λ_=>none⟩:=rfl
theorem KO(c:Code)(e:Env16)(s:S):den rc P (.scope c) e s=hopN (jV rc P c).fr 1000001 (den rc P c e s):=by unfold den;rw[Ri]
def QX(D:List Int)(P:Program)(rc:FuncId->List V->S->RO)(c:Code):Prop:=
 ∀(E:Env)(n lo U:Nat)(e:Env16)(s:S)(x:X)(e':Env16)(s':S),E.n=n->qV n c=true->den rc P c e s= .ok x e' s'->EOK D E lo e s->s'.nx.num<=U->
  EOK D E lo e' s'/\s.nx.num<=s'.nx.num/\ ∀a w H β,Rel D E lo U e s a w H β->c.wp P (Ag D E lo U x e' s') a w
theorem KQ{next:Act->World->Prop}{Q:Exit->Act->World->Prop}{x:X}{a:Act}{w:World}(hx:x≠ .nrm)(h:Q (BQ x) a w):Exit.then next Q (BQ x) a w:=by
 cases x with
 |nrm=>exact absurd rfl hx
 |ext i=>
  have e:BQ (.ext i)=(bif Nat.blt i 1048576 then .exit i else .goto (i-1048576)):=rfl;rw[e]at h⊢;cases hb:Nat.blt i 1048576<;>(rw[hb]at h;exact h)
 |ret=>exact h
theorem Er{i:Nat}(h:Nat.blt i 1048576=true):BQ (.ext i)= .exit i:=by
 show(bif Nat.blt i 1048576 then Exit.exit i else .goto (i-1048576))=_;rw[h];rfl
theorem Ep{i:Nat}(h:Nat.blt i 1048576=false):BQ (.ext i)= .goto (i-1048576):=by
 show(bif Nat.blt i 1048576 then Exit.exit i else .goto (i-1048576))=_;rw[h];rfl
def Hops(P:Program)(c:Code)(Q:Exit->Act->World->Prop):Nat->Code->Act->World->Prop
 |0,_,_,_=>False
 |n+1,d,a,w=>d.wp P (λe a' w'=>match e with| .goto l=>(match findLabel c l with|some rest=>Hops P c Q n rest a' w'|none=>Q (.goto l) a' w')|e=>Q e a' w') a w
theorem PO{c:Code}{Q:Exit->Act->World->Prop}{b:Frame}{k:List Item}{cs:List Frame}: ∀(n:Nat)(d:Code)(a:Act)(w:World),Hops P c Q n d a w->
  ∃e a' w',Q e a' w'/\Arrives P (lone (b.at a (.code d:: .inScope c::k)) cs w) b k cs e a' w'
 |0,_,_,_,h=>h.elim
 |n+1,d,a,w,h=>by
  obtain⟨e,a₁,w₁,hq,harr⟩:=h b (.inScope c::k) cs
  cases e with
  |normal=>exact⟨.normal,a₁,w₁,hq,Steps.trans harr (.one step_inScope)⟩
  |exit id=>exact⟨.exit id,a₁,w₁,hq,λk' hk=>harr k' (by simp[exitTo,hk])⟩
  |goto l=>
   have hq:(match findLabel c l with|some rest=>Hops P c Q n rest a₁ w₁|none=>Q (.goto l) a₁ w₁):=hq
   cases hf:findLabel c l with
   |none=>
    rw[hf]at hq;exact⟨.goto l,a₁,w₁,hq,λk' hk=>harr k' (by simp[gotoIn,hf,hk])⟩
   |some rest=>
    rw[hf]at hq;obtain⟨e₂,a₂,w₂,hq₂,harr₂⟩:=PO n rest a₁ w₁ hq;exact⟨e₂,a₂,w₂,hq₂,.of_steps (harr _ (by simp[gotoIn,hf])) harr₂⟩
  |ret=>exact⟨_,a₁,w₁,hq,harr⟩
  |panic ch=>exact⟨_,a₁,w₁,hq,harr⟩
  |outgrown=>exact⟨_,a₁,w₁,hq,harr⟩
theorem LN{c:Code}{Q:Exit->Act->World->Prop}{n:Nat}{a:Act}{w:World}(h:Hops P c Q n c a w):(Code.scope c).wp P Q a w:=by
 intro b k cs;obtain⟨e,a',w',hq,harr⟩:=PO (b:=b) (k:=k) (cs:=cs) n c a w h;exact⟨e,a',w',hq,.of_steps (.one step_scope) harr⟩
def DenG(D:List Int)(P:Program)(Ck:Nat->Prop)(f:Env16->S->R)(c:Code):Prop:=
 ∀(E:Env)(n lo U:Nat)(e:Env16)(s:S)(x:X)(e':Env16)(s':S),E.n=n->Ck n->f e s= .ok x e' s'->EOK D E lo e s->s'.nx.num<=U->
  EOK D E lo e' s'/\s.nx.num<=s'.nx.num/\ ∀a w H β,Rel D E lo U e s a w H β->c.wp P (Ag D E lo U x e' s') a w
theorem N0{K1 K2:Nat->Prop}{f g:Env16->S->R}{c d:Code}(hc:DenG D P K1 f c)(hd:DenG D P K2 g d):DenG D P (λn=>K1 n/\K2 n) (λe s=>BZ (f e s) g) (.seq c d):=λE n lo U e s x e' s' hn hk h he hU=>by
 have h':BZ (f e s) g= .ok x e' s':=h;rcases Ot h' with⟨e1,s1,h1,h2⟩|⟨h1,hx⟩
 .--the second part has to be known first,for the bound
  have hmono:s1.nx.num<=s'.nx.num:=by
   have hE1:=(hc E n lo s1.nx.num e s .nrm e1 s1 hn hk.1 h1 he (q5B _)).1;exact(hd E n lo U e1 s1 x e' s' hn hk.2 h2 hE1 hU).2.1
  obtain⟨a1,a2,a3⟩:=hc E n lo U e s .nrm e1 s1 hn hk.1 h1 he (q5C hmono hU);obtain⟨b1,b2,b3⟩:=hd E n lo U e1 s1 x e' s' hn hk.2 h2 a1 hU;refine⟨b1,q5C a2 b2,λa w H β hr=>wp_seq (wp_mono (a3 a w H β hr) ?_)⟩
  rintro ex a w ⟨rfl,H',β',hr'⟩
  exact b3 a w H' β' hr'
 .obtain⟨a1,a2,a3⟩:=hc E n lo U e s x e' s' hn hk.1 h1 he hU
  refine⟨a1,a2,λa w H β hr=>wp_seq (wp_mono (a3 a w H β hr) ?_)⟩
  rintro ex a w ⟨rfl,H',β',hr'⟩
  exact KQ hx ⟨rfl,H',β',hr'⟩
def FrOk(D:List Int)(P:Program)(fr:Nat->Option (Env16->S->R))(c:Code):Prop:= ∀l,match fr l with
 |some f=> ∃rest,findLabel c l=some rest/\DenG D P (λn=>qV n c=true) f rest
 |none=>findLabel c l=none
theorem q1l{a b:Code}(ha:FrOk D P (jV rc P a).fr a)(hb:FrOk D P (jV rc P b).fr b)(hd:QX D P rc b):FrOk D P (jV rc P (.seq a b)).fr (.seq a b):=λl=>by
  have ha:=ha l;have hb:=hb l;have e1:(jV rc P (.seq a b)).fr l=(match(jV rc P a).fr l with|some f=>some (λe s=>BZ (f e s) (jV rc P b).st)|none=>(jV rc P b).fr l):=rfl;have e2:findLabel (.seq a b) l=(match findLabel a l with|some rest=>some (.seq rest b)|none=>findLabel b l):=rfl;have hk: ∀n,qV n (.seq a b)=true->qV n a=true/\qV n b=true:=λn h=>by simpa only[qV,q4L]using h
  rw[e1,e2]
  cases hfa:(jV rc P a).fr l with
  |some f=>
   rw[hfa]at ha;obtain⟨rest,h1,h2⟩:=ha;rw[h1];exact⟨.seq rest b,rfl,λE n lo U e s x e' s' hn hc=>N0 h2 (show DenG D P (λn=>qV n b=true) (jV rc P b).st b from hd) E n lo U e s x e' s' hn (hk n hc)⟩
  |none=>
   rw[hfa]at ha;have ha:findLabel a l=none:=ha;rw[ha]
   show match(jV rc P b).fr l with
    |some f=> ∃rest,findLabel b l=some rest/\DenG D P (λn=>qV n (.seq a b)=true) f rest
    |none=>findLabel b l=none
   cases hfb:(jV rc P b).fr l with
   |some f=>
    rw[hfb]at hb;obtain⟨rest,h1,h2⟩:=hb;exact⟨rest,h1,λE n lo U e s x e' s' hn hc=>h2 E n lo U e s x e' s' hn (hk n hc).2⟩
   |none=>rw[hfb]at hb;exact hb
theorem Wy(l':Nat):FrOk D P (jV rc P (.label l')).fr (.label l'):=λl=>by
  have e1:(jV rc P (.label l')).fr l=bif Nat.beq l' l then some (λe s=> .ok .nrm e s)else none:=rfl
  rw[e1]
  cases hb:Nat.beq l' l with
  |true=>
   refine⟨.skip,?_,λE n lo U e s x e' s' hn hk h he hU=>?_⟩
   .rw[q5w hb];simp[findLabel]
   .cases h;exact⟨he,q5B _,λa w H β hr=>wp_skip ⟨rfl,H,β,hr⟩⟩
  |false=>
   show findLabel (.label l') l=none;have:l'≠l:=λe=>by subst e;simp at hb
   simp[findLabel,this]
theorem TR{c:Code}{fr:Nat->Option (Env16->S->R)}(hfr:FrOk D P fr c){E:Env}{n lo:Nat}(hn:E.n=n)(hk:qV n c=true){x:X}{e':Env16}{s':S}: ∀(N:Nat)(d:Code)(f:Env16->S->R)(U:Nat)(e:Env16)(s:S),DenG D P (λn=>qV n c=true) f d->
  hopN fr N (f e s)= .ok x e' s'->EOK D E lo e s->s'.nx.num<=U->EOK D E lo e' s'/\s.nx.num<=s'.nx.num/\ ∀a w H β,Rel D E lo U e s a w H β->Hops P c (Ag D E lo U x e' s') N d a w
 |0,d,f,U,e,s,hd,h,he,hU=>by cases h
 |N+1,d,f,U,e,s,hd,h,he,hU=>by
  have plain: ∀{y:X},f e s= .ok y e' s'->y=x->(∀i,y= .ext i->Nat.blt i 1048576=false->findLabel c (i-1048576)=none)->EOK D E lo e' s'/\s.nx.num<=s'.nx.num/\ ∀a w H β,Rel D E lo U e s a w H β->Hops P c (Ag D E lo U x e' s') (N+1) d a w:=λ{y} hy hyx hng=>by
   subst hyx;obtain⟨a1,a2,a3⟩:=hd E n lo U e s y e' s' hn hk hy he hU;refine⟨a1,a2,λa w H β hr=>?_⟩;show d.wp P _ a w;refine wp_mono (a3 a w H β hr) ?_
   rintro ex a w ⟨rfl,H',β',hr'⟩
   have hp:Ag D E lo U y e' s' (BQ y) a w:=⟨rfl,H',β',hr'⟩
   cases y with
   |nrm=>exact hp
   |ret=>exact hp
   |ext i=>
    cases hb:Nat.blt i 1048576 with
    |true=>rw[Er hb]at hp⊢;exact hp
    |false=>
     rw[Ep hb]at hp⊢;show match findLabel c (i-1048576)with|some rest=>Hops P c _ N rest a w|none=>_
     rw[hng i rfl hb];exact hp
  cases hr:f e s with
  |no t=>rw[hr]at h;cases h
  |need t=>rw[hr]at h;cases h
  |ok y e1 s1=>
   rw[hr]at h
   cases y with
   |nrm=>cases h;exact plain hr rfl (by simp)
   |ret=>cases h;exact plain hr rfl (by simp)
   |ext i=>
    have h: @Bool.rec (λ_=>R) (.ok (.ext i) e1 s1) (match(generalizing:=false) fr (Nat.sub i 1048576)with|some f=>hopN fr N (f e1 s1)|none=> .ok (.ext i) e1 s1) (Nat.ble 1048576 i)= .ok x e' s':=h
    cases hb:Nat.ble 1048576 i with
    |false=>
     rw[hb]at h;cases h
     refine plain hr rfl λj hj hlt=>?_
     injection hj with hj
     subst hj;have h1: ¬1048576<=i:=λh2=>by rw[show Nat.ble 1048576 i=true from Nat.ble_eq_true_of_le h2]at hb;cases hb
     have h3:Nat.blt i 1048576=true:=by simp only[Nat.blt_eq];omega
     rw[h3]at hlt;cases hlt
    |true=>
     rw[hb]at h;have hge:=q5y hb
     have hlt:Nat.blt i 1048576=false:=by
      cases h3:Nat.blt i 1048576 with
      |false=>rfl
      |true=>simp only[Nat.blt_eq]at h3;omega
     have hf:=hfr (i-1048576);have h:(match(generalizing:=false) fr (i-1048576)with|some f=>hopN fr N (f e1 s1)|none=> .ok (.ext i) e1 s1)=R.ok x e' s':=h
     cases hg:fr (i-1048576)with
     |none=>
      rw[hg]at h hf;have h:R.ok (.ext i) e1 s1= .ok x e' s':=h;injection h with q1 q2 q3
      subst q1;subst q2;subst q3
      have hf:findLabel c (i-1048576)=none:=hf;exact plain hr rfl λj hj _=>(X.ext.inj hj)▸hf
     |some g=>
      rw[hg]at h hf;obtain⟨rest,h1,h2⟩:=hf;have hE1:=(hd E n lo s1.nx.num e s _ e1 s1 hn hk hr he (q5B _)).1;obtain⟨b1,b2,b3⟩:=TR hfr hn hk N rest g U e1 s1 h2 h hE1 hU;obtain⟨a1,a2,a3⟩:=hd E n lo U e s _ e1 s1 hn hk hr he (q5C b2 hU);refine⟨b1,q5C a2 b2,λa w H β hrel=>?_⟩;show d.wp P _ a w;refine wp_mono (a3 a w H β hrel) ?_
      rintro ex a w ⟨rfl,H',β',hr'⟩
      rw[Ep hlt];show match findLabel c (i-1048576)with|some rest=>Hops P c _ N rest a w|none=>_
      rw[h1];exact b3 a w H' β' hr'
theorem zm(hrc:RcOk D P rc)(hm:P.follows .mixedOrders=true): ∀c:Code,QX D P rc c/\FrOk D P (jV rc P c).fr c
 | .skip=>⟨λE n lo U e s x e' s' hn hk h he hU=>(by
  cases h;exact⟨he,q5B _,λa w H β hr=>wp_skip ⟨rfl,H,β,hr⟩⟩),λl=>rfl⟩
 | .region id ops false=>⟨λE n lo U e s x e' s' hn hk h he hU=>(by
  have h':Ad rc P ops.toList ops.toList e s= .ok x e' s':=h;obtain⟨rfl,h2,h3,h4⟩:=Lr (U:=U) hrc hn (List.all_eq_true.1 hk) ops.toList 0 e s x e' s' rfl h' he hU;refine⟨h2,h3,λa w H β hr=>wp_region ?_⟩;rw[List.range_eq_range']
  exact h4 a w H β hr),λl=>rfl⟩
 | .region id ops true=>⟨λE n lo U e s x e' s' hn hk h he hU=>(by
  have h':runD rc P ops.toList e s= .ok x e' s':=h;obtain⟨rfl,h2,h3,h4⟩:=q0m (U:=U) hrc hm hn (List.all_eq_true.1 hk) h' he hU
  exact⟨h2,h3,λa w H β hr=>h4 id a w H β hr⟩),λl=>rfl⟩
 | .seq c d=>⟨λE n lo U e s x e' s' hn hk h he hU=>N0 (show DenG D P (λn=>qV n c=true) (den rc P c) c from(zm hrc hm c).1) (show DenG D P (λn=>qV n d=true) (den rc P d) d from(zm hrc hm d).1) E n lo U e s x e' s' hn (by simpa only[qV,q4L]using hk) h he hU,q1l (zm hrc hm c).2 (zm hrc hm d).2 (zm hrc hm d).1⟩
 | .cond c y z=>⟨λE n lo U e s x e' s' hn hk h he hU=>(by
  have h':LW (qa e c) (den rc P y) (den rc P z) e s= .ok x e' s':=h;simp only[qV,q4L]at hk;unfold LW at h';split at h'
  .rename_i t hc
   have hev: ∀a w H β,Rel D E lo U e s a w H β->a.eval c= .bool t:=λa w H β hr=>by
    have hs:=Gs hr.rep (x:=c) (by rw[hc];simp) (λt _=>rfl);rw[hc]at hs;exact hs.1
   cases t with
   |true=>
    obtain⟨a1,a2,a3⟩:=(zm hrc hm y).1 E n lo U e s x e' s' hn hk.1 h' he hU;exact⟨a1,a2,λa w H β hr=>wp_cond_true (hev a w H β hr) (a3 a w H β hr)⟩
   |false=>
    obtain⟨a1,a2,a3⟩:=(zm hrc hm z).1 E n lo U e s x e' s' hn hk.2 h' he hU;exact⟨a1,a2,λa w H β hr=>wp_cond_false (hev a w H β hr) (a3 a w H β hr)⟩
  .cases h'),λl=>rfl⟩
 | .block id c=>⟨λE n lo U e s x e' s' hn hk h he hU=>(by
  have h':Ik id (den rc P c e s)= .ok x e' s':=h;have hk:(Nat.blt id 1048576&&qV n c)=true:=hk;rw[q4L]at hk;have hk':qV n c=true:=hk.2;rcases T9 h' with⟨h1,rfl⟩|⟨h1,hx⟩
  .obtain⟨a1,a2,a3⟩:=(zm hrc hm c).1 E n lo U e s _ e' s' hn hk' h1 he hU
   refine⟨a1,a2,λa w H β hr=>wp_block (wp_mono (a3 a w H β hr) ?_)⟩
   rintro ex a w ⟨rfl,H',β',hr'⟩
   rw[Er hk.1];simp only[Exit.inBlock,if_true];exact⟨rfl,H',β',hr'⟩
  .obtain⟨a1,a2,a3⟩:=(zm hrc hm c).1 E n lo U e s _ e' s' hn hk' h1 he hU
   refine⟨a1,a2,λa w H β hr=>wp_block (wp_mono (a3 a w H β hr) ?_)⟩
   rintro ex a w ⟨rfl,H',β',hr'⟩
   cases x with
   |nrm=>exact⟨rfl,H',β',hr'⟩
   |ret=>exact⟨rfl,H',β',hr'⟩
   |ext i=>
    have:i≠id:=λe=>hx (by rw[e])
    have hp:Ag D E lo U (.ext i) e' s' (BQ (.ext i)) a w:=⟨rfl,H',β',hr'⟩
    cases hb:Nat.blt i 1048576 with
    |true=>
     rw[Er hb]at hp⊢;simp only[Exit.inBlock,if_neg this];exact hp
    |false=>rw[Ep hb]at hp⊢;exact hp),λl=>rfl⟩
 | .loop c=>⟨λE n lo U e s x e' s' hn hk h he hU=>(by
  have h':BU (den rc P c) 1000000 e s= .ok x e' s':=by rw[N1]at h;exact h
  have hk':qV n c=true:=hk
  have key: ∀N e s,BU (den rc P c) N e s= .ok x e' s'->EOK D E lo e s->EOK D E lo e' s'/\s.nx.num<=s'.nx.num/\ ∀a w H β,Rel D E lo U e s a w H β->Code.rounds P c (Ag D E lo U x e' s') N a w:=by
   intro N
   induction N with
   |zero=>intro e s h;cases h
   |succ N ih=>
    intro e s h he;have h2:Mi (BU (den rc P c) N) (den rc P c e s)= .ok x e' s':=h;rcases Xy h2 with⟨e1,s1,h3,h4⟩|⟨h3,hx⟩
    .have hE1:=((zm hrc hm c).1 E n lo s1.nx.num e s .nrm e1 s1 hn hk' h3 he (q5B _)).1
     obtain⟨b1,b2,b3⟩:=ih e1 s1 h4 hE1;obtain⟨a1,a2,a3⟩:=(zm hrc hm c).1 E n lo U e s .nrm e1 s1 hn hk' h3 he (q5C b2 hU);refine⟨b1,q5C a2 b2,λa w H β hr=>?_⟩;rw[rounds_succ];refine wp_mono (a3 a w H β hr) ?_
     rintro ex a w ⟨rfl,H',β',hr'⟩
     exact b3 a w H' β' hr'
    .obtain⟨a1,a2,a3⟩:=(zm hrc hm c).1 E n lo U e s x e' s' hn hk' h3 he hU
     refine⟨a1,a2,λa w H β hr=>?_⟩;rw[rounds_succ];refine wp_mono (a3 a w H β hr) ?_
     rintro ex a w ⟨rfl,H',β',hr'⟩
     exact KQ hx ⟨rfl,H',β',hr'⟩
  obtain⟨a1,a2,a3⟩:=key 1000000 e s h' he
  exact⟨a1,a2,λa w H β hr=>wp_loop_rounds 1000000 (a3 a w H β hr)⟩),λl=>rfl⟩
 | .exit id=>⟨λE n lo U e s x e' s' hn hk h he hU=>(by
  cases h;exact⟨he,q5B _,λa w H β hr=>wp_exit ⟨(Er hk).symm,H,β,hr⟩⟩),λl=>rfl⟩
 | .label l=>⟨λE n lo U e s x e' s' hn hk h he hU=>(by
  cases h;exact⟨he,q5B _,λa w H β hr=>wp_label ⟨rfl,H,β,hr⟩⟩),Wy l⟩
 | .ret=>⟨λE n lo U e s x e' s' hn hk h he hU=>(by
  cases h;exact⟨he,q5B _,λa w H β hr=>wp_ret ⟨rfl,H,β,hr⟩⟩),λl=>rfl⟩
 | .rangeFunc .. =>⟨λE n lo U e s x e' s' hn hk h he hU=>(by cases h),λl=>rfl⟩
 | .goto l=>⟨λE n lo U e s x e' s' hn hk h he hU=>(by
  cases h
  have hb:Nat.blt (1048576+l) 1048576=false:=by
   cases h3:Nat.blt (1048576+l) 1048576 with
   |false=>rfl
   |true=>simp only[Nat.blt_eq]at h3;omega
  have e1:BQ (.ext (1048576+l))= .goto l:=by rw[Ep hb,Nat.add_sub_cancel_left]
  exact⟨he,q5B _,λa w H β hr=>wp_goto ⟨e1.symm,H,β,hr⟩⟩),λl=>rfl⟩
 | .scope c=>⟨λE n lo U e s x e' s' hn hk h he hU=>(by
  have h':hopN (jV rc P c).fr 1000001 (den rc P c e s)= .ok x e' s':=by rw[KO]at h;exact h
  have hk':qV n c=true:=hk;obtain⟨a1,a2,a3⟩:=TR ((zm hrc hm c).2) hn hk' 1000001 c (den rc P c) U e s ((zm hrc hm c).1) h' he hU
  exact⟨a1,a2,λa w H β hr=>LN (a3 a w H β hr)⟩),λl=>rfl⟩
 | .refuse _=>⟨λE n lo U e s x e' s' hn hk h he hU=>(by cases h),λl=>rfl⟩
theorem q1b(hrc:RcOk D P rc)(hm:P.follows .mixedOrders=true)(c:Code):QX D P rc c:=(zm hrc hm c).1
end
end
noncomputable section
section
variable {D:List Int} {P:Program}
theorem EY(l:List V)(t:Nat):slot (jz l) t=if t<16 then nthV l t else .und:=by
 rcases q5F t 256 with h|h
 .rw[Cg h]
  unfold Aj;rw[Ef h];show Mh (D16.of (t/16)) (D16.of (t%16)) (jz l).lo=_;have h1:(D16.of (t/16)).n=t/16:=D16.n_of (by omega);have h2:(D16.of (t%16)).n=t%16:=D16.n_of (by omega);by_cases ht:t<16
  .rw[if_pos ht]
   have e1:D16.of (t/16)= .d0:=D16.n_inj (by rw[h1,Nat.div_eq_of_lt ht];rfl);rw[e1];rw[q5H ht]at h2⊢;generalize D16.of t=d at h2;subst h2;cases d<;>rfl
  .rw[if_neg ht]
   generalize D16.of (t%16)=d';generalize D16.of (t/16)=d at h1;have:d≠ .d0:=λe=>by subst e;have h1:0=t/16:=h1;omega
   cases d<;>first|exact absurd rfl this|exact N16.get_all _ d'
 .rw[Cf (by omega),if_neg (by omega)]
  unfold Aj
  cases Nat.blt (t-256) 256 with
  |false=>rfl
  |true=>
   show((N16.all (N16.all V.und)).get _).get _= .und;rw[N16.get_all,N16.get_all]
theorem FA{t:TypeId}{k:Key}{b:KB}{v:V}{o off:Nat}{cl:List Atom}(hbl:b.blk D= .rigid cl\/ ∃es,b.blk D= .grow es cl)(hv:v.okC)
  (hcl: ∀s,o+s<=(v.cells D).length->(cl.drop off).take s=((v.cells D).drop o).take s/\off+s<=cl.length){r:KR}(h:ldV P t v o [(k,b)]=r)(hr:r≠ .bad):
  r.res.okC/\ ∀(β:Bm)(w:World)(H:Heap)(p c:Nat),(b.blk D).rep β w H k.num->β k.num=some (p,c)-> ∃u,(loadVar t ⟨p,off,none⟩).run P w= .ok u w/\(r.res.cmp D).sat β H u:=by
 obtain⟨g,s,l,z,hs,e,ho,h1,h2,h3,h4⟩:=Nv (D:=D) h hr hv;subst e;obtain⟨c1,c2⟩:=hcl s h2;rw[h1]at c1;refine⟨ho,λβ w H p c hb hβ=>?_⟩
 have hld: ∃ks Lw,Bw P (λ_=>some (b.blk D)) t (.c (.one (.loc k.num off)))=some (.c (z.cmp D),ks,Lw):=by
  have hle:Nat.ble (off+s) cl.length=true:=by simpa using c2
  rcases hbl with e1|⟨es,e1⟩
  .unfold Bw
   rw[e1]
   cases g with
   |true=>simp only[hs,hle];rw[h3 rfl,<-c1];exact⟨_,_,rfl⟩
   |false=>
    obtain⟨k1,k2,k3⟩:=h4 rfl;rw[k2]at c1;have c3:=Ab c1 k3;simp only[hs,c3];rw[k1];exact⟨_,_,rfl⟩
  .unfold Bw
   rw[e1]
   cases g with
   |true=>simp only[hs,hle];rw[h3 rfl,<-c1];exact⟨_,_,rfl⟩
   |false=>
    obtain⟨k1,k2,k3⟩:=h4 rfl;rw[k2]at c1;have c3:=Ab c1 k3;simp only[hs,c3];rw[k1];exact⟨_,_,rfl⟩
 obtain⟨ks,Lw,hld⟩:=hld;exact Ic hld (λb' hb'=>by cases hb';exact hb) hβ
theorem L5{m:qM}{t:TypeId}{x:V}{r:KR}(h:jY P m t x=r)(hr:r≠ .bad)(hm: ∀k b,mget m k=some b->b.ok):
  r.res.okC/\ ∃k off,qc D x= .c (.one (.loc k off))/\ ∀(β:Bm)(w:World)(H:Heap),(∀q b,mget m q=some b->(b.blk D).rep β w H q.num)-> ∀p c,β k=some (p,c)-> ∃u,(loadVar t ⟨p,off,none⟩).run P w= .ok u w/\(r.res.cmp D).sat β H u:=by
 unfold jY at h;split at h
 .rename_i k o
  split at h
  .rename_i v hb
   obtain⟨a1,a2⟩:=FA (D:=D) (cl:=v.cells D) (off:=o) (.inl rfl) (hm _ _ hb) (λs hs=>⟨rfl,hs⟩) h hr;exact⟨a1,k.num,o,rfl,λβ w H hM p c hβ=>a2 β w H p c (hM _ _ hb) hβ⟩
  .exact absurd h.symm hr
 .rename_i k i o w
  split at h
  .rename_i es n q hb
   cases hc:Nat.beq w es&&Nat.blt i n with
   |false=>rw[hc]at h;exact absurd h.symm hr
   |true=>
    rw[hc]at h;rw[q4L]at hc;have e1:=q5w hc.1;subst e1;have hi:i<n:=by simpa using hc.2
    have hok:=hm _ _ hb;have hel:=hok.2 _ (q5h (v7 .und q hi));obtain⟨a1,a2⟩:=FA (D:=D) (cl:=flat D (Sq.toL .und q 0 n)) (off:=i*w+o) (.inl rfl) hel.1 (λs hs=>B6 hok.2 (v7 .und q hi) (by rw[V.okC_size hel.1,hel.2]at hs;exact hs)) h hr;exact⟨a1,k.num,i*w+o,rfl,λβ w' H hM p c hβ=>a2 β w' H p c (hM _ _ hb) hβ⟩
  .rename_i es n q hb
   cases hc:Nat.beq w es&&Nat.blt i n with
   |false=>rw[hc]at h;exact absurd h.symm hr
   |true=>
    rw[hc]at h;rw[q4L]at hc;have e1:=q5w hc.1;subst e1;have hi:i<n:=by simpa using hc.2
    have hok:=hm _ _ hb;have hel:=hok.2 _ (q5h (v7 .und q hi));obtain⟨a1,a2⟩:=FA (D:=D) (b:= .gro w n q) (cl:=flat D (Sq.toL .und q 0 n)) (off:=i*w+o) ((JN w _).imp id λh=>⟨w,h⟩) hel.1 (λs hs=>B6 hok.2 (v7 .und q hi) (by rw[V.okC_size hel.1,hel.2]at hs;exact hs)) h hr;exact⟨a1,k.num,i*w+o,rfl,λβ w' H hM p c hβ=>a2 β w' H p c (hM _ _ hb) hβ⟩
  .exact absurd h.symm hr
 .exact absurd h.symm hr
def BC(m:qM):List Nat:=ids.filter λn=>(mblk m n).isSome
theorem wg{m:qM}{n:Nat}:n∈BC m↔ ∃k b,Key.num k=n/\mget m k=some b:=by
 unfold BC;rw[q5g];constructor
 .rintro⟨_,h⟩
  obtain⟨b,hb⟩:=Option.isSome_iff_exists.1 h;obtain⟨k,h1,h2⟩:=zd hb;exact⟨k,b,h1,h2⟩
 .rintro⟨k,b,rfl,hb⟩
  exact⟨k.num_ids,by rw[vt,hb];rfl⟩
theorem Jk{E:Env}{e:Env16}{s:S}{a:Act}{w:World}{H:Heap}{β:Bm}(hr:RepF E (qt D e s.m) a w H β)(hm: ∀k b,mget s.m k=some b->b.ok)(he: ∀t,(slot e t).ok){r:ResultVar}(h:isC (vo P e s.m r)=true):
  (vo P e s.m r).okC/\ ∃v,(rv a r).run P w= .ok v w/\((vo P e s.m r).cmp D).sat β H v:=by
 cases r with
 |tmp t=>
  have hc:(slot e t).okC:=A5 h (he t);obtain⟨u,hu,hs⟩:=hr.slot t (.c ((slot e t).cmp D)) (by rw[qL,V.okC_av hc];rfl);exact⟨hc,u,by simp[rv,Array.getD_eq_getD_getElem?,hu],hs⟩
 |cell x t=>
  have hne:jY P s.m t (slot e x)≠ .bad:=λe1=>by
   have h2:isC (jY P s.m t (slot e x)).res=true:=h;rw[e1]at h2;cases h2
  obtain⟨a1,k,off,a2,a3⟩:=L5 (D:=D) rfl hne hm;refine⟨a1,?_⟩
  have hav:(slot e x).av D=some (qc D (slot e x)):=by
   rcases V.av_or (D:=D) (slot e x)with e1|⟨l,e1⟩|e1
   .rw[e1]at hne;exact absurd rfl hne
   .rw[e1];rfl
   .rw[qc,e1];rfl
  obtain⟨u,hu,hs⟩:=hr.slot x _ (by rw[qL,hav];rfl);rw[a2]at hs;obtain⟨b,c,hβ,rfl⟩:=hs;obtain⟨v,hv,hsv⟩:=a3 β w H (λq b hb=>hr.blk q.num _ (jT hb)) b c hβ;exact⟨v,by simp[rv,Array.getD_eq_getD_getElem?,hu,asAddr,hv],hsv⟩
theorem Jj{E:Env}{e:Env16}{s:S}{a:Act}{w:World}{H:Heap}{β:Bm}(hr:RepF E (qt D e s.m) a w H β)(hm: ∀k b,mget s.m k=some b->b.ok)(he: ∀t,(slot e t).ok): ∀{l:List ResultVar},(l.map (vo P e s.m)).all isC=true->
  ∃vs,(l.mapM (rv a)).run P w= .ok vs w/\CmpSats β H ((l.map (vo P e s.m)).map (V.cmp D)) vs
 |[],_=>⟨[],by simp,trivial⟩
 |r::l,h=>by
  simp only[q5b,List.all_cons,q4L]at h;obtain⟨_,v,hv,hs⟩:=Jk hr hm he h.1;obtain⟨vs,hvs,hss⟩:=Jj hr hm he h.2;refine⟨v::vs,?_,hs,hss⟩;rw[List.mapM_cons];simp only[q64,hv,q63,hvs,q65]
theorem Qw{s s':S}{l:List V}{v:V}(h:retA s l= .ok v s'):l.all isC=true/\s'=s/\((∃x,l=[x]/\v=x)\/(l.length≠1/\v= .tu l)):=by
 unfold retA at h
 cases hc:l.all isC with
 |false=>rw[hc]at h;cases h
 |true=>
  rw[hc]at h;have h:retL s l= .ok v s':=h;unfold retL at h;split at h
  .cases h;exact⟨rfl,rfl,.inl ⟨_,rfl,rfl⟩⟩
  .rename_i hl
   cases h;refine⟨rfl,rfl,.inr ⟨λe=>?_,rfl⟩⟩;obtain⟨x,hx⟩:=List.length_eq_one_iff.1 e;exact hl x hx
theorem q0f{E:Env}{e:Env16}{s s':S}{a:Act}{w:World}{H:Heap}{β:Bm}(hr:RepF E (qt D e s.m) a w H β)(hm: ∀k b,mget s.m k=some b->b.ok)(he: ∀t,(slot e t).ok){fn:Func}{v:V}
  (h:retA s (fn.results.toList.map (vo P e s.m))= .ok v s'): ∃u,(results fn a.tmps).run P w= .ok u w/\(qc D v).sat β H u:=by
 obtain⟨h1,_,h3⟩:=Qw h;obtain⟨vs,hvs,hsat⟩:=Jj (P:=P) hr hm he h1
 have hrun:(results fn a.tmps).run P w= .ok (if h:vs.toArray.size=1 then vs.toArray[0]else .tuple vs.toArray) w:=by
  show(do let vs<-fn.results.mapM (rv a);pure (if h:vs.size=1 then vs[0]else Value.tuple vs):Sem Value).run P w=_;rw[Array.mapM_eq_mapM_toList];simp only[q64,Sem.run_map,hvs,q63,q65]
 rw[hrun];refine⟨_,rfl,?_⟩
 have hlen: ∀{l:List Cmp}{vs:List Value},CmpSats β H l vs->l.length=vs.length:=by
  intro l
  induction l with
  |nil=>intro vs h;cases vs with|nil=>rfl|cons _ _=>exact h.elim
  |cons x l ih=>intro vs h;cases vs with|nil=>exact h.elim|cons y vs=>simp[ih h.2]
 have hl:=hlen hsat;rcases h3 with⟨x,e1,rfl⟩|⟨e1,rfl⟩
 .rw[e1]at hsat h1 hl
  have hxo:v.okC:=by
   have:isC v=true:=by simpa using h1
   have hmem:v∈fn.results.toList.map (vo P e s.m):=by rw[e1];simp
   obtain⟨r,_,rfl⟩:=List.mem_map.1 hmem;exact(Jk hr hm he this).1
  simp only[q5b,List.map_nil,q56,q59]at hl
  match vs,hl,hsat with
  |[u],_,hsat=>
   rw[zA hxo];exact hsat.1
 .simp only[q58]at hl e1
  rw[dif_neg (by simp;omega)];exact⟨_,rfl,hsat⟩
end
end
noncomputable section
section
variable {D:List Int} {P:Program}
theorem HN{l:List V}{t:Nat}{x:V}(h:l[t]?=some x):nthV l t=x:=by
 simp[nthV,q4X,h]
theorem Li{l:List V}{t:Nat}(h:l[t]?=none):nthV l t= .und:=by
 simp[nthV,q4X,h]
theorem q0e{l:List ResultVar}{r:R}{v:V}{s':S}(h:retR P l r= .ok v s'): ∃x e s,r= .ok x e s/\(x= .nrm\/x= .ret)/\retA s (l.map (vo P e s.m))= .ok v s':=by
 cases r with
 |no t=>cases h
 |need n=>cases h
 |ok x e s=>
  cases x with
  |nrm=>exact⟨.nrm,e,s,rfl,.inl rfl,h⟩
  |ret=>exact⟨.ret,e,s,rfl,.inr rfl,h⟩
  |ext i=>cases h
theorem Pj{f:Nat}{r:RO}{v:V}{s:S}(h:addT f r= .ok v s):r= .ok v s:=by cases r<;>first|exact h|cases h
theorem q1m{rc:FuncId->List V->S->RO}(hrc:RcOk D P rc)(hm:P.follows .mixedOrders=true){f:FuncId}{fn:Func}{c:Code}(hf:P.funcs[f]?=some fn)(hb:fn.body=some c){vs:List V}{s s':S}{v:V}
  (hk:qV fn.ntmps c=true)(hl16:vs.length<=16)(hln:vs.length<=fn.ntmps)(hname:BF fn=true)(h:retR P fn.results.toList (den rc P c (jz vs) s)= .ok v s')(hvs: ∀x∈vs,x.ok/\x≠ .und)(hs:SOK D s):CallOk D P f vs s v s':=by
 obtain⟨x,e1,s1,hden,hx,hret⟩:=q0e h;obtain⟨hall,rfl,hv⟩:=Qw hret
 have hslots: ∀t,(slot (jz vs) t).ok:=λt=>by
  rw[EY];split
  .cases hq:vs[t]? with
   |none=>rw[Li hq];exact trivial
   |some y=>rw[HN hq];exact(hvs y (q5h hq)).1
  .exact trivial
 have eok: ∀E:Env,E.Ks=BC s.m->EOK D E s.nx.num (jz vs) s:=λE hE=>by
  refine⟨hslots,hs,q5B _,λk hk=>?_,λk hk=> .inl ?_⟩
  .rw[hE]at hk
   obtain⟨q,b,rfl,hb⟩:=wg.1 hk;exact hs.lt q (by rw[hb];simp)
  .rw[hE]
   cases hq:mget s.m k with
   |none=>exact absurd hq hk
   |some b=>exact wg.2 ⟨k,b,rfl,hq⟩
 have hge: ∀k∈BC s.m,100000<=k:=λk hk=>by
  obtain⟨q,b,rfl,_⟩:=wg.1 hk;exact q.num_ge
 have main: ∀(w:World)(H:Heap)(β:Bm),EOK D ⟨w,H,β,BC s.m,fn.ntmps,hge⟩ s.nx.num e1 s'/\s.nx.num<=s'.nx.num/\
   ∀a w' H' β',Rel D ⟨w,H,β,BC s.m,fn.ntmps,hge⟩ s.nx.num s'.nx.num (jz vs) s a w' H' β'->c.wp P (Ag D ⟨w,H,β,BC s.m,fn.ntmps,hge⟩ s.nx.num s'.nx.num x e1 s') a w':=
  λw H β=>q1b hrc hm c _ fn.ntmps s.nx.num s'.nx.num (jz vs) s x e1 s' rfl hk hden (eok _ rfl) (q5B _)
 obtain⟨he1,hle,_⟩:=main default (λ_=>none) (λ_=>none)
 have hvo:v.ok/\v≠ .und:=by
  have hok: ∀y∈fn.results.toList.map (vo P e1 s'.m),y.okC:=by
   intro y hy;have hc:=List.all_eq_true.1 hall y hy;obtain⟨r,_,rfl⟩:=List.mem_map.1 hy
   cases r with
   |tmp t=>exact A5 hc (he1.slots t)
   |cell a t=>
    have hne:jY P s'.m t (slot e1 a)≠ .bad:=λe2=>by
     have h2:isC (jY P s'.m t (slot e1 a)).res=true:=hc;rw[e2]at h2;cases h2
    exact(L5 (D:=D) rfl hne he1.sok.ok).1
  rcases hv with⟨y,e2,rfl⟩|⟨_,rfl⟩
  .have:=hok v (by rw[e2];simp)
   exact⟨V.okC_ok this,vO this⟩
  .exact⟨hok,by simp⟩
 refine⟨by unfold callable;rw[hf];simp[hb];unfold BF at hname;simpa using hname,he1.sok,hle,hvo.1,hvo.2,?_,?_⟩
 .intro k hk
  rcases he1.old k hk with h1|h1
  .obtain⟨q,b,e2,hb⟩:=wg.1 h1
   have:=Key.num_inj e2;subst this;exact .inl (by rw[hb];simp)
  .exact .inr h1
 .intro us w H β hargs hM hon hdom
  have hrep:RepF ⟨w,H,β,BC s.m,fn.ntmps,hge⟩ (qt D (jz vs) s.m) {tmps:=us.toArray++Array.replicate (fn.ntmps-us.toArray.size) undef,defers:=[]} w H β:=by
   have hvl:=AVs.length hargs;simp only[q58]at hvl;refine⟨rfl,?_,?_,?_,?_,?_,λ_ _=>rfl,rfl,rfl,rfl,q5B _,λ_ _ _=>rfl,Heap.Le.refl _,λb hb=> .inl hb,hon⟩
   .simp;omega
   .intro t av ht
    rw[qL,EY]at ht
    cases hq:vs[t]? with
    |none=>rw[Li hq]at ht;split at ht<;>cases ht
    |some y=>
     have hlt:t<vs.length:=by
      rcases q5F t vs.length with h|h
      .exact h
      .rw[q52 h]at hq;cases hq
     rw[if_pos (by omega),HN hq]at ht;have hy:=hvs y (q5h hq);obtain⟨u,hu,hs⟩:=AVs.get t hargs (a:=qc D y) (by simp[hq]);refine⟨u,?_,?_⟩
     .rw[Array.getElem?_append_left (by simp;omega)]
      simpa using hu
     .rcases V.av_or (D:=D) y with e2|⟨l,e2⟩|e2
      .exact absurd e2 hy.2
      .subst e2;cases ht;exact hs
      .rw[qc,e2]at hs;rw[e2]at ht;cases ht;exact hs
   .intro k b hb'
    rw[qj]at hb'
    cases hl:mblk s.m k with
    |none=>rw[hl]at hb';cases hb'
    |some x=>
     rw[hl]at hb';simp at hb';subst hb'
     obtain⟨q,rfl,hq⟩:=zd hl;exact hM.rep q x hq
   .intro k x b c hx' hβ
    rw[qj]at hx'
    cases hl:mblk s.m k with
    |none=>rw[hl]at hx';cases hx'
    |some y=>
     obtain⟨q,rfl,hq⟩:=zd hl;obtain⟨h1,h2⟩:=hM.own q y hq b c hβ;exact⟨h1,h2,.inr ⟨_,wg.2 ⟨q,y,rfl,hq⟩,c,hβ⟩⟩
   .intro k k' x x' b c c' hx1 hx2 hne hβ
    rw[qj]at hx1 hx2
    cases hl:mblk s.m k with
    |none=>rw[hl]at hx1;cases hx1
    |some y=>
     cases hl':mblk s.m k' with
     |none=>rw[hl']at hx2;cases hx2
     |some y'=>
      obtain⟨q,rfl,hq⟩:=zd hl;obtain⟨q',rfl,hq'⟩:=zd hl';exact hM.inj q q' y y' hq hq' (λe=>hne (by rw[e])) b c c' hβ
  obtain⟨_,_,hwp⟩:=main w H β;refine calls_of_wp hf hb (wp_mono (hwp _ w H β ⟨hrep,hdom,λk _=>rfl⟩) ?_)
  rintro ex a w' ⟨rfl,H',β',hr⟩
  obtain⟨u,hu,hsat⟩:=q0f (P:=P) hr.rep he1.sok.ok he1.slots hret
  have hpost: ∃u' H' β',Ending.returned u= .returned u'/\Sim s.m s'.m s.nx.num s'.nx.num w H β w' H' β'/\(qc D v).sat β' H' u'/\MRep D s'.m w' H' β':=by
   refine⟨u,H',β',rfl,⟨hr.rep.os,hr.rep.tape,hr.rep.output,hr.rep.wsize,?_,hr.rep.hle,hr.rep.hnew,hr.rep.hon,λk hk=>hr.bet k hk,?_⟩,hsat,⟨?_,?_,?_⟩⟩
   .intro b hb hk
    refine hr.rep.frame b hb λk hk' c=>?_
    obtain⟨q,y,rfl,hq⟩:=wg.1 hk';exact hk q (by rw[hq];simp) c
   .intro k b hb bb c hβ
    obtain⟨_,_,h3⟩:=hr.rep.own k.num _ bb c (jT (D:=D) (e:=e1) hb) hβ;rcases h3 with h3|⟨k0,hk0,c0,h3⟩
    .exact .inl h3
    .obtain⟨q,y,rfl,hq⟩:=wg.1 hk0
     exact .inr ⟨q,by rw[hq];simp,c0,h3⟩
   .intro k b hb;exact hr.rep.blk k.num _ (jT hb)
   .intro k b hb bb c hβ
    obtain⟨h1,h2,_⟩:=hr.rep.own k.num _ bb c (jT (D:=D) (e:=e1) hb) hβ;exact⟨h1,h2⟩
   .intro k k' b b' hb hb' hne bb c c' hβ
    exact hr.rep.inj k.num k'.num _ _ bb c c' (jT (D:=D) (e:=e1) hb) (jT (D:=D) (e:=e1) hb') (λe=>hne (Key.num_inj e)) hβ
  rcases hx with rfl|rfl
  .exact⟨hr.rep.defers,u,hu,hpost⟩
  .exact⟨hr.rep.defers,u,hu,hpost⟩
def Mn(D:List Int)(P:Program)(pr:vH):Prop:= ∀f g,pr f=some g-> ∀vs s v s',g vs s= .ok v s'->(∀x∈vs,x.ok/\x≠ .und)->SOK D s->CallOk D P f vs s v s'
theorem MJ{pr:vH}(hpr:Mn D P pr)(hm:P.follows .mixedOrders=true): ∀n,RcOk D P (Eh P pr n)
 |0=>λf vs s v s' h _ _=>by cases h
 |n+1=>λf vs s v s' h hvs hs=>by
  have h':(match pr f with
   |some g=>addT f (g vs s)
   |none=>(match P.funcs[f]? with
    |some fn=>(match fn.body with
     |some c=> @Bool.rec (λ_=>RO) (.no [17]) (addT f (retR P fn.results.toList (den (Eh P pr n) P c (jz vs) s))) (qV fn.ntmps c&&Nat.ble vs.length 16&&Nat.ble vs.length fn.ntmps&&BF fn)
     |none=> .no [15])
    |none=> .no [16]))=RO.ok v s':=h
  split at h'
  .rename_i g hg
   exact hpr f g hg vs s v s' (Pj h') hvs hs
  .split at h'
   .rename_i fn hf
    split at h'
    .rename_i c hb
     cases hc:qV fn.ntmps c&&Nat.ble vs.length 16&&Nat.ble vs.length fn.ntmps&&BF fn with
     |false=>rw[hc]at h';cases h'
     |true=>
      rw[hc]at h';simp only[q4L]at hc;exact q1m (MJ hpr hm n) hm hf hb hc.1.1.1 (q5y hc.1.1.2) (q5y hc.1.2) hc.2 (Pj h') hvs hs
    .cases h'
   .cases h'
end
end
noncomputable section
section
variable {v2:V} {s2:S}
theorem jD{a b:Bool}:jm a b=true↔a=true/\b=true:=by cases a<;>cases b<;>simp[jm]
theorem PW(a b:IntKind):keqF a b=keq a b:=by cases a<;>cases b<;>rfl
theorem PV(k:IntKind):kLim k=lim k:=by cases k<;>rfl
theorem Kc(a:Bool):notB a=!a:=by cases a<;>rfl
theorem Jg{x:V}{f:IntKind->Nat->RO}{z:V->RO}(h:qNN x f z= .ok v2 s2):(∃k n,x= .nn k n/\f k n= .ok v2 s2)\/((∀k n,x≠ .nn k n)/\z x= .ok v2 s2):=by
 cases x<;>first|exact .inl ⟨_,_,rfl,h⟩|exact .inr ⟨by simp,h⟩
theorem Yl{x:V}{f:Nat->RO}(h:qN x f= .ok v2 s2): ∃k n,x= .nn k n/\f n= .ok v2 s2:=by
 cases x<;>first|exact⟨_,_,rfl,h⟩|cases h
theorem GM{x:V}{f:Key->Nat->RO}{g:Key->Nat->Nat->Nat->RO}(h:qP x f g= .ok v2 s2):(∃k o,x= .pp k o/\f k o= .ok v2 s2)\/(∃k i o w,x= .ee k i o w/\g k i o w= .ok v2 s2):=by
 cases x<;>first|exact .inl ⟨_,_,rfl,h⟩|exact .inr ⟨_,_,_,_,rfl,h⟩|cases h
theorem Ym{x:V}{f:Key->Nat->Nat->Nat->Nat->RO}{g:Key->Nat->Nat->Nat->RO}{z:V->RO}(h:qS x f g z= .ok v2 s2):
  (∃k lo n c w,x= .sl k lo n c w/\f k lo n c w= .ok v2 s2)\/(∃k lo n w,x= .gs k lo n w/\g k lo n w= .ok v2 s2)\/z x= .ok v2 s2:=by
 cases x<;>first|exact .inl ⟨_,_,_,_,_,rfl,h⟩|exact .inr (.inl ⟨_,_,_,_,rfl,h⟩)|exact .inr (.inr h)
theorem S9{x:V}{f:Bool->RO}(h:qB x f= .ok v2 s2): ∃b,x= .bb b/\f b= .ok v2 s2:=by cases x<;>first|exact⟨_,rfl,h⟩|cases h
theorem q4t{x:V}{f:Bool->RO}{z:RO}(h:qG x f z= .ok v2 s2):(∃b,x= .bb b/\f b= .ok v2 s2)\/(x= .tu []/\z= .ok v2 s2):=by
 cases x with
 |bb b=>exact .inl ⟨b,rfl,h⟩
 |tu l=>cases l with
  |nil=>exact .inr ⟨rfl,h⟩
  |cons _ _=>cases h
 |_=>cases h
theorem Yk{x:V}{z:RO}(h:qD x z= .ok v2 s2):x≠ .und/\z= .ok v2 s2:=by cases x<;>first|exact⟨by simp,h⟩|cases h
theorem A0{x:V}{f:V->RO}(h:qF x f= .ok v2 s2):x≠ .und/\f x= .ok v2 s2:=by cases x<;>first|exact⟨by simp,h⟩|cases h
theorem Sa{x:V}{f:V->RO}(h:qK x f= .ok v2 s2):isC x=true/\f x= .ok v2 s2:=by cases x<;>first|exact⟨rfl,h⟩|cases h
theorem q4u{x:V}{f:List V->RO}(h:qT x f= .ok v2 s2): ∃l,x= .tu l/\f l= .ok v2 s2:=by cases x<;>first|exact⟨_,rfl,h⟩|cases h
theorem zr{b:Bool}{t:List Nat}{z:RO}(h: @Bool.rec (λ_=>RO) (.no t) z b= .ok v2 s2):b=true/\z= .ok v2 s2:=by cases b<;>first|exact⟨rfl,h⟩|cases h
theorem MF{b:Bool}{t:List Nat}{z:RO}(h: @Bool.rec (λ_=>RO) z (.no t) b= .ok v2 s2):b=false/\z= .ok v2 s2:=by cases b<;>first|exact⟨rfl,h⟩|cases h
theorem q4v{x:V}{s:Nat}{y z:RO}(h:qX x s y z= .ok v2 s2):isC x=true/\x.size=s/\((x.un=true/\y= .ok v2 s2)\/z= .ok v2 s2):=by
 cases x with
 |und=>cases h
 |tu l=>cases h
 |ag w l=>obtain⟨h1,h2⟩:=zr h;exact⟨rfl,q5w h1,.inr h2⟩
 |_=>obtain⟨h1,h2⟩:=zr h;exact⟨rfl,q5w h1,.inl ⟨rfl,h2⟩⟩
theorem IX{k:IntKind}{c:Nat}{K:V->RO}(h:nnK k c K= .ok v2 s2):K (nnW k c)= .ok v2 s2:=by
 unfold nnK at h
 cases hb:Nat.blt c (kLim k)with
 |true=>
  rw[hb]at h;unfold nnW;rw[<-PV,hb];exact h
 |false=>rw[hb]at h;exact h
theorem YH{op:BinOp}{k:IntKind}{a b:Nat}{K:V->RO}(h:(binH op).f k a b K= .ok v2 s2):binN op k a b≠ .und/\K (binN op k a b)= .ok v2 s2:=by
 have hw: ∀c,nnW k c≠ .und:=λc=>by
  have:=(CC [] k c).1;intro e;rw[e]at this;cases this
 cases op with
 |add=>exact⟨hw _,IX h⟩
 |mul=>exact⟨hw _,IX h⟩
 |sub=>
  have h: @Bool.rec (λ_=>RO) (qF (binI .sub k a b) K) (K (.nn k (Nat.sub a b))) (jm (Nat.ble b a) (Nat.blt a (kLim k)))= .ok v2 s2:=h;have e:jm (Nat.ble b a) (Nat.blt a (kLim k))=(Nat.ble b a&&Nat.blt a (lim k)):=by rw[PV];cases Nat.ble b a<;>rfl
  rw[e]at h;show @Bool.rec (λ_=>V) (binI .sub k a b) (.nn k (Nat.sub a b)) (Nat.ble b a&&Nat.blt a (lim k))≠ .und/\K (@Bool.rec (λ_=>V) (binI .sub k a b) (.nn k (Nat.sub a b)) (Nat.ble b a&&Nat.blt a (lim k)))=_
  cases hb:Nat.ble b a&&Nat.blt a (lim k)with
  |true=>rw[hb]at h;exact⟨by simp,h⟩
  |false=>rw[hb]at h;exact A0 h
 |quo=>
  obtain⟨h1,h2⟩:=MF h;have e:binN .quo k a b=nnW k (Nat.div a b):=by show @Bool.rec (λ_=>V) _ _ (Nat.beq b 0)=_;rw[h1]
  rw[e];exact⟨hw _,IX h2⟩
 |rem=>
  obtain⟨h1,h2⟩:=MF h;have e:binN .rem k a b= .nn k (Nat.mod a b):=by show @Bool.rec (λ_=>V) _ _ (Nat.beq b 0)=_;rw[h1]
  rw[e];exact⟨by simp,h2⟩
 |eql=>exact⟨by simp[binN],h⟩
 |neq=>have h:K (.bb (notB (Nat.beq a b)))=_:=h;rw[Kc]at h;exact⟨by simp[binN],h⟩
 |lss=>exact⟨by simp[binN],h⟩
 |leq=>exact⟨by simp[binN],h⟩
 |gtr=>exact⟨by simp[binN],h⟩
 |geq=>exact⟨by simp[binN],h⟩
 |_=>exact A0 h
theorem NA(m:qM)(k:Key):zF m k=mget m k:=by
 have e4: ∀(d:D16)(m:qM),mg4 d m=m.get d:=by intro d m;cases d<;>rfl
 have e3: ∀(d:D16) m,mg3 d m=N16.get m d:=by intro d m;cases d<;>rfl
 have e2: ∀(d:D16) m,mg2 d m=N16.get m d:=by intro d m;cases d<;>rfl
 have e1: ∀(d:D16) m,mg1 d m=N16.get m d:=by intro d m;cases d<;>rfl
 obtain⟨a,b,c,d⟩:=k;show mg1 d (mg2 c (mg3 b (mg4 a m)))=_;rw[e1,e2,e3,e4];rfl
theorem NF(m:qM)(k:Key)(v:Option KB):AQ m k v=mset m k v:=by
 have e4: ∀(d:D16)(m:qM),mg4 d m=m.get d:=by intro d m;cases d<;>rfl
 have e3: ∀(d:D16) m,mg3 d m=N16.get m d:=by intro d m;cases d<;>rfl
 have e2: ∀(d:D16) m,mg2 d m=N16.get m d:=by intro d m;cases d<;>rfl
 have s4: ∀(d:D16)(m:qM) x,ms4 d m x=m.set d x:=by intro d m x;cases d<;>rfl
 have s3: ∀(d:D16) m x,ms3 d m x=N16.set m d x:=by intro d m x;cases d<;>rfl
 have s2: ∀(d:D16) m x,ms2 d m x=N16.set m d x:=by intro d m x;cases d<;>rfl
 have s1: ∀(d:D16) m x,ms1 d m x=N16.set m d x:=by intro d m x;cases d<;>rfl
 obtain⟨a,b,c,d⟩:=k;show ms4 a m (ms3 b (mg4 a m) (ms2 c (mg3 b (mg4 a m)) (ms1 d (mg2 c (mg3 b (mg4 a m))) v)))=_;rw[s4,s3,s2,s1,e2,e3,e4];rfl
theorem C4{v:V}{l a c:List V}{o:Nat}(hw:v.wd<=o)(h0:0<o)(h:cut l (o-v.wd)=some (a,c)):cut (v::l) o=some (v::a,c):=by
 obtain⟨p,rfl⟩: ∃p,o=p+1:=⟨o-1,by omega⟩;rw[MZ,if_pos hw,h]
theorem Pw{v:V}(l:List V)(h:v.wd=1):cut (v::l) 1=some ([v],l):=C4 (by omega) (by omega) (by rw[h];exact An l)
theorem q36{v:V}{f:V->RO}(h:uAt v f= .ok v2 s2): ∃u r,f u= .ok v2 s2/\u.on=true/\ ∀l,cut (v::l) 1=some ([u],r++l):=by
 cases v with
 |und=>cases h
 |tu l=>cases h
 |ag w l=>cases h
 |qq s n d=>exact⟨.bb s,[.mg n,.mg (if d=1 then 0 else d)],h,rfl,λl=>rfl⟩
 |_=>exact⟨_,[],h,rfl,λl=>Pw l rfl⟩
theorem ifbeq(d:Nat):(@Bool.rec (λ_=>Nat) d 0 (Nat.beq d 1))=if d=1 then 0 else d:=by
 by_cases h:d=1
 .subst h;rfl
 .rw[js h,if_neg h]
theorem U6: ∀{l:List V}{o:Nat}{f:V->RO},ldL l o f= .ok v2 s2-> ∃a u r,f u= .ok v2 s2/\u.on=true/\carve l o 1=some (a,[u],r)
 |[],o,f,h=>by cases h
 |v::l,0,f,h=>by
  obtain⟨u,r,h1,h2,h3⟩:=q36 (show uAt v f= .ok v2 s2 from h);refine⟨[],u,r++l,h1,h2,?_⟩;unfold carve;rw[An];simp only;rw[h3]
 |v::l,p+1,f,h=>by
  have h:Dj v (λq=>ldL l q f) p f= .ok v2 s2:=h
  have step:v.wd<=p+1->ldL l (p+1-v.wd) f= .ok v2 s2-> ∃a u r,f u= .ok v2 s2/\u.on=true/\carve (v::l) (p+1) 1=some (a,[u],r):=by
   intro hw h;obtain⟨a,u,r,h1,h2,h3⟩:=U6 h;unfold carve at h3;split at h3
   .rename_i a' c hc
    split at h3
    .rename_i m' r' hc2
     cases h3;refine⟨v::a,u,r,h1,h2,?_⟩;unfold carve;rw[C4 hw (by omega) hc];simp only;rw[hc2]
    .cases h3
   .cases h3
  cases v with
  |und=>cases h
  |tu l=>cases h
  |ag w l=>cases h
  |qq s n d=>
   match p,h,step with
   |0,h,step=>exact⟨[.bb s],.mg n,.mg (if d=1 then 0 else d)::l,h,rfl,rfl⟩
   |1,h,step=>
    have h:f (.mg (@Bool.rec (λ_=>Nat) d 0 (Nat.beq d 1)))= .ok v2 s2:=h;rw[ifbeq]at h
    exact⟨[.bb s,.mg n],.mg (if d=1 then 0 else d),l,h,rfl,by
    unfold carve;have e:cut (V.qq s n d::l) (1+1)=some ([.bb s,.mg n],.mg (if d=1 then 0 else d)::l):=rfl;rw[e];simp only
    rw[Pw l rfl]⟩
   |q+2,h,step=>exact step (by show 3<=q+2+1;omega) h
  |_=>exact step (by show 1<=p+1;omega) h
theorem Zx{v u:V}{o:Nat}{a r:List V}(ks:List (Key×KB))(h:carve v.us o 1=some (a,[u],r))(hu:u.on=true):ldS false 1 v o ks= .val u ks:=by
 unfold ldS;rw[h];simp only;have:mkV false 1 [u]=u:=by show @Bool.rec (λ_=>V) .und u u.on=u;rw[hu]
 rw[this];cases u<;>first|rfl|cases hu
theorem ED{v u:V}{o:Nat}{a r:List V}(ks:List (Key×KB))(h1:(Nat.beq o 0&&Nat.beq 1 v.size&&xorB false v.on)=false)(h2:carve v.us o 1=some (a,[u],r))(h3:u.on=true):ldG false 1 v o ks= .val u ks:=by
 unfold ldG;rw[h1];exact Zx ks h2 h3
theorem U4{v:V}{o:Nat}{f:V->RO}(ks:List (Key×KB))(h:ld1 v o f= .ok v2 s2): ∃u,u≠ .und/\f u= .ok v2 s2/\ldG false 1 v o ks= .val u ks:=by
 have one: ∀{x:V},x.on=true->v=x->(@Nat.rec (λ_=>RO) (f x) (λ_ _=> .no [94]) o= .ok v2 s2)-> ∃u,u≠ .und/\f u= .ok v2 s2/\ldG false 1 v o ks= .val u ks:=by
  intro x hx e h;subst e
  cases o with
  |succ p=>cases h
  |zero=>
   refine⟨v,okC_ne' hx,h,?_⟩;unfold ldG
   have:(Nat.beq 0 0&&Nat.beq 1 v.size&&xorB false v.on)=true:=by
    rw[hx];have:v.size=1:=by cases v<;>first|rfl|cases hx
    rw[this];rfl
   rw[this]
 cases v with
 |und=>cases h
 |tu l=>cases h
 |ag w l=>
  obtain⟨a,u,r,h1,h2,h3⟩:=U6 (show ldL l o f= .ok v2 s2 from h);exact⟨u,okC_ne' h2,h1,ED ks (by simp[V.on,xorB]) h3 h2⟩
 |qq s n d=>
  match o,h with
  |0,h=>exact⟨.bb s,by simp,h,ED ks rfl (a:=[]) (r:=[.mg n,.mg (if d=1 then 0 else d)]) rfl rfl⟩
  |1,h=>exact⟨.mg n,by simp,h,ED ks rfl (a:=[.bb s]) (r:=[.mg (if d=1 then 0 else d)]) rfl rfl⟩
  |2,h=>
   have h:f (.mg (@Bool.rec (λ_=>Nat) d 0 (Nat.beq d 1)))= .ok v2 s2:=h;rw[ifbeq]at h;exact⟨_,by simp,h,ED ks rfl (a:=[.bb s,.mg n]) (r:=[]) rfl rfl⟩
  |o+3,h=>cases h
 |_=>exact one rfl rfl h
where okC_ne' {v:V} (h:v.on=true):v≠ .und:=λe=>by subst e;cases h
theorem Zy{g:Bool}{s:Nat}{v:V}{o:Nat}(ks:List (Key×KB))(h:(ldS g s v o []).res≠ .und):ldS g s v o ks= .val (ldS g s v o []).res ks:=by
 unfold ldS at h⊢
 cases hc:carve v.us o s with
 |none=>rw[hc]at h;exact absurd rfl h
 |some p=>
  obtain⟨a,l,r⟩:=p;rw[hc]at h;simp only at h⊢;cases hm:mkV g s l<;>first|(rw[hm]at h;exact absurd rfl h)|rfl
theorem JZ: ∀{l:List V}{o:Nat}{f:V->RO}{z:RO},ldL3 l o f z= .ok v2 s2->(∃a u r,f u= .ok v2 s2/\(∃s n d,u= .qq s n d)/\carve l o 3=some (a,[u],r))\/z= .ok v2 s2
 |[],o,f,z,h=> .inr h
 |v::l,0,f,z,h=>by
  cases v with
  |qq s n d=>
   refine .inl ⟨[],.qq s n d,l,h,⟨s,n,d,rfl⟩,?_⟩;unfold carve;rw[An];simp only;rw[C4 (v:= .qq s n d) (q5B 3) (by omega) (An l)]
  |_=>exact .inr h
 |v::l,p+1,f,z,h=>by
  have step:v.wd<=p+1->ldL3 l (p+1-v.wd) f z= .ok v2 s2->(∃a u r,f u= .ok v2 s2/\(∃s n d,u= .qq s n d)/\carve (v::l) (p+1) 3=some (a,[u],r))\/z= .ok v2 s2:=by
   intro hw h;rcases JZ h with⟨a,u,r,h1,h2,h3⟩|h
   .left
    unfold carve at h3;split at h3
    .rename_i a' c hc
     split at h3
     .rename_i m' r' hc2
      cases h3;refine⟨v::a,u,r,h1,h2,?_⟩;unfold carve;rw[C4 hw (by omega) hc];simp only;rw[hc2]
     .cases h3
    .cases h3
   .exact .inr h
  cases v with
  |und=>exact .inr h
  |tu l=>exact .inr h
  |ag w l=>exact .inr h
  |qq s n d=>
   match p,h,step with
   |0,h,step=>exact .inr h
   |1,h,step=>exact .inr h
   |q+2,h,step=>exact step (by show 3<=q+2+1;omega) h
  |_=>exact step (by show 1<=p+1;omega) h
theorem U5{v:V}{s o:Nat}{K:V->RO}(ks:List (Key×KB))(h:ldA v s o K (qF (ldS true s v o []).res K)= .ok v2 s2): ∃u,u≠ .und/\K u= .ok v2 s2/\ldG true s v o ks= .val u ks:=by
 have slow:(Nat.beq o 0&&Nat.beq s v.size&&xorB true v.on)=false->qF (ldS true s v o []).res K= .ok v2 s2-> ∃u,u≠ .und/\K u= .ok v2 s2/\ldG true s v o ks= .val u ks:=by
  intro h1 h2;obtain⟨q1,q2⟩:=A0 h2;refine⟨_,q1,q2,?_⟩;unfold ldG;rw[h1];exact Zy ks q1
 cases v with
 |und=>cases h
 |tu l=>cases h
 |ag w l=>
  have h: @Bool.rec (λ_=>RO) (@Bool.rec (λ_=>RO) _ (ldL3 l o K _) (Nat.beq s 3)) (K (.ag w l)) (@Bool.rec (λ_=>Bool) false (Nat.beq s w) (Nat.beq o 0))= .ok v2 s2:=h
  cases ho:Nat.beq o 0 with
  |true=>
   rw[ho]at h
   cases hs:Nat.beq s w with
   |true=>
    rw[hs]at h;refine⟨.ag w l,by simp,h,?_⟩;unfold ldG
    have:(Nat.beq o 0&&Nat.beq s (V.ag w l).size&&xorB true (V.ag w l).on)=true:=by
     show(Nat.beq o 0&&Nat.beq s w&&true)=true;rw[ho,hs];rfl
    rw[this]
   |false=>
    rw[hs]at h
    have hc:(Nat.beq o 0&&Nat.beq s (V.ag w l).size&&xorB true (V.ag w l).on)=false:=by
     show(Nat.beq o 0&&Nat.beq s w&&true)=false;rw[hs];simp
    cases h3:Nat.beq s 3 with
    |false=>rw[h3]at h;exact slow hc h
    |true=>
     rw[h3]at h;have h3:=q5w h3;subst h3;rcases JZ h with⟨a,u,r,h1,⟨sg,n,d,rfl⟩,h4⟩|h
     .refine⟨_,by simp,h1,?_⟩
      unfold ldG;rw[hc];show ldS true 3 (.ag w l) o ks=_;unfold ldS;rw[show(V.ag w l).us=l from rfl,h4];rfl
     .exact slow hc h
  |false=>
   rw[ho]at h;have hc:(Nat.beq o 0&&Nat.beq s (V.ag w l).size&&xorB true (V.ag w l).on)=false:=by rw[ho];rfl
   cases h3:Nat.beq s 3 with
   |false=>rw[h3]at h;exact slow hc h
   |true=>
    rw[h3]at h;have h3:=q5w h3;subst h3;rcases JZ h with⟨a,u,r,h1,⟨sg,n,d,rfl⟩,h4⟩|h
    .refine⟨_,by simp,h1,?_⟩
     unfold ldG;rw[hc];show ldS true 3 (.ag w l) o ks=_;unfold ldS;rw[show(V.ag w l).us=l from rfl,h4];rfl
    .exact slow hc h
 |qq sg n d=>
  have h: @Bool.rec (λ_=>RO) _ (K (.qq sg n d)) (@Bool.rec (λ_=>Bool) false (Nat.beq s 3) (Nat.beq o 0))= .ok v2 s2:=h
  cases ho:Nat.beq o 0 with
  |true=>
   rw[ho]at h
   cases hs:Nat.beq s 3 with
   |true=>
    rw[hs]at h;refine⟨_,by simp,h,?_⟩;unfold ldG
    have:(Nat.beq o 0&&Nat.beq s (V.qq sg n d).size&&xorB true (V.qq sg n d).on)=true:=by
     show(Nat.beq o 0&&Nat.beq s 3&&true)=true;rw[ho,hs];rfl
    rw[this]
   |false=>
    rw[hs]at h;exact slow (by show(Nat.beq o 0&&Nat.beq s 3&&true)=false;rw[hs];simp) h
  |false=>rw[ho]at h;exact slow (by rw[ho];rfl) h
 |_=>exact slow (by simp[V.on,xorB]) h
theorem X8{g:Bool}{s:Nat}{v:V}{o:Nat}{K:V->RO}(ks:List (Key×KB))(hs:g=false->s=1)(h:AR g s v o K= .ok v2 s2): ∃u,u≠ .und/\K u= .ok v2 s2/\ldG g s v o ks= .val u ks:=by
 cases g with
 |true=>exact U5 ks h
 |false=>have:=hs rfl;subst this;exact U4 ks h
theorem TX{b:Option KB}{f:V->RO}(h:kbB b f= .ok v2 s2): ∃v,b=some (.bx v)/\f v= .ok v2 s2:=by
 cases b with
 |none=>cases h
 |some b=>cases b<;>first|exact⟨_,rfl,h⟩|cases h
theorem TY{b:Option KB}{f g:Nat->Nat->Sq V->RO}(h:kbR b f g= .ok v2 s2):(∃es n q,b=some (.arr es n q)/\f es n q= .ok v2 s2)\/(∃es n q,b=some (.gro es n q)/\g es n q= .ok v2 s2):=by
 cases b with
 |none=>cases h
 |some b=>cases b<;>first|exact .inl ⟨_,_,_,rfl,h⟩|exact .inr ⟨_,_,_,rfl,h⟩|cases h
theorem K6 {P : Program} {t : TypeId} {g : Bool} {s : Nat} {m : qM} {p : V} {K : V -> RO} {part : V -> Nat -> RO} (hs : qQ P t = some (g, s))
  (hp : ∀ v o ks, part v o = .ok v2 s2 -> ∃ u, u ≠ .und /\ K u = .ok v2 s2 /\ ldG g s v o ks = .val u ks)
  (h : qP p (λk o => kbB (zF m k) λv => part v o)
   (λk i o w => kbR (zF m k) (λes n q => @Bool.rec (λ_ => RO) (.no [98]) (part (Sq.get .und q i) o) (jm (Nat.beq w es) (Nat.blt i n)))
    (λes n q => @Bool.rec (λ_ => RO) (.no [98]) (part (Sq.get .und q i) o) (jm (Nat.beq w es) (Nat.blt i n)))) = .ok v2 s2) :
  ∃ u ks, u ≠ .und /\ K u = .ok v2 s2 /\ jY P m t p = .val u ks := by
 have hv : ∀ v o ks, ldV P t v o ks = ldG g s v o ks := λv o ks => by unfold ldV; rw [hs]
 rcases GM h with ⟨k, o, e, h'⟩ | ⟨k, i, o, w, e, h'⟩ <;> subst e <;> rw [NA] at h'
 .obtain ⟨v, hb, h'⟩ := TX h'
  obtain ⟨u, h1, h2, h3⟩ := hp v o [(k, .bx v)] h';refine ⟨u, [(k, .bx v)], h1, h2, ?_⟩;simp only [jY, hb];rw [hv]; exact h3
 .rcases TY h' with ⟨es, n, q, hb, h'⟩ | ⟨es, n, q, hb, h'⟩ <;> obtain ⟨hc, h'⟩ := zr h'
  .obtain ⟨u, h1, h2, h3⟩ := hp _ o [(k, .arr es n q)] h'
   refine ⟨u, [(k, .arr es n q)], h1, h2, ?_⟩;simp only [jY, hb];rw [jD] at hc;rw [hc.1, hc.2, hv]; exact h3
  .obtain ⟨u, h1, h2, h3⟩ := hp _ o [(k, .gro es n q)] h'
   refine ⟨u, [(k, .gro es n q)], h1, h2, ?_⟩;simp only [jY, hb];rw [jD] at hc;rw [hc.1, hc.2, hv]; exact h3
theorem q4F{x:V}(h:x.un=true):x.us=[x]:=by cases x<;>first|rfl|cases h
theorem Vb{x:V}: ∀{l:List V}{o w:Nat}{f:List V->RO}{z:RO},stL l o x w f z= .ok v2 s2->(∃a u r,f (a++x::r)= .ok v2 s2/\carve l o w=some (a,[u],r))\/z= .ok v2 s2
 |[],o,w,f,z,h=> .inr h
 |v::l,0,w,f,z,h=>by
  have h:Dk v w (f (x::l)) z= .ok v2 s2:=h
  have key: ∀n:Nat,v.wd=n->0<n->(@Bool.rec (λ_=>RO) z (f (x::l)) (Nat.beq w n))= .ok v2 s2->(∃a u r,f (a++x::r)= .ok v2 s2/\carve (v::l) 0 w=some (a,[u],r))\/z= .ok v2 s2:=by
   intro n hn h0 h
   cases hb:Nat.beq w n with
   |false=>rw[hb]at h;exact .inr h
   |true=>
    rw[hb]at h;have:=q5w hb;subst this;refine .inl ⟨[],v,l,h,?_⟩;unfold carve;rw[An];simp only;rw[C4 (Nat.le_of_eq hn) h0 (by rw[hn,Nat.sub_self];exact An l)]
  cases v with
  |und=>exact .inr h
  |tu l=>exact .inr h
  |ag w l=>exact .inr h
  |qq s n d=>exact key 3 rfl (by omega) h
  |_=>exact key 1 rfl (by omega) h
 |v::l,p+1,w,f,z,h=>by
  have h:Dl v p (λq=>stL l q x w (λl=>f (v::l)) z) z= .ok v2 s2:=h
  have step:v.wd<=p+1->stL l (p+1-v.wd) x w (λl=>f (v::l)) z= .ok v2 s2->(∃a u r,f (a++x::r)= .ok v2 s2/\carve (v::l) (p+1) w=some (a,[u],r))\/z= .ok v2 s2:=by
   intro hw h;rcases Vb h with⟨a,u,r,h1,h3⟩|h
   .left
    unfold carve at h3;split at h3
    .rename_i a' c hc
     split at h3
     .rename_i m' r' hc2
      cases h3;refine⟨v::a,u,r,h1,?_⟩;unfold carve;rw[C4 hw (by omega) hc];simp only;rw[hc2]
     .cases h3
    .cases h3
   .exact .inr h
  cases v with
  |und=>exact .inr h
  |tu l=>exact .inr h
  |ag w l=>exact .inr h
  |qq s n d=>
   match p,h,step with
   |0,h,step=>exact .inr h
   |1,h,step=>exact .inr h
   |q+2,h,step=>exact step (by show 3<=q+2+1;omega) h
  |_=>exact step (by show 1<=p+1;omega) h
theorem Q1{v x:V}{o s:Nat}{K:V->RO}(h:layF v o s x K= .ok v2 s2):isC x=true/\x.size=s/\ ∃y,putV v o s x=some y/\K y= .ok v2 s2:=by
 unfold layF at h;obtain⟨h1,h2,h3⟩:=q4v h;refine⟨h1,h2,?_⟩
 have slow:(@Option.rec V (λ_=>RO) (.no [96]) K (putV v o s x)= .ok v2 s2)-> ∃y,putV v o s x=some y/\K y= .ok v2 s2:=by
  intro h
  cases hp:putV v o s x with
  |none=>rw[hp]at h;cases h
  |some y=>rw[hp]at h;exact⟨y,rfl,h⟩
 rcases h3 with⟨hu,h⟩|h
 .generalize hz:(@Option.rec V (λ_=>RO) (.no [96]) K (putV v o s x))=z at h slow
  have whole: ∀w:Nat,v.size=w->(@Bool.rec (λ_=>RO) z (K x) (@Bool.rec (λ_=>Bool) false (Nat.beq s w) (Nat.beq o 0)))= .ok v2 s2-> ∃y,putV v o s x=some y/\K y= .ok v2 s2:=by
   intro w hw h
   cases ho:Nat.beq o 0 with
   |false=>rw[ho]at h;exact slow h
   |true=>
    rw[ho]at h
    cases hs:Nat.beq s w with
    |false=>rw[hs]at h;exact slow h
    |true=>
     rw[hs]at h;refine⟨x,?_,h⟩;unfold putV;rw[ho,hw,hs];rfl
  cases v with
  |und=>cases h
  |tu l=>cases h
  |ag w l=>
   have h: @Bool.rec (λ_=>RO) (stL l o x s (λl=>K (.ag w l)) z) (K x) (@Bool.rec (λ_=>Bool) false (Nat.beq s w) (Nat.beq o 0))= .ok v2 s2:=h
   have part:(Nat.beq o 0&&Nat.beq s w)=false->stL l o x s (λl=>K (.ag w l)) z= .ok v2 s2-> ∃y,putV (.ag w l) o s x=some y/\K y= .ok v2 s2:=by
    intro hc h;rcases Vb h with⟨a,u,r,h4,h5⟩|h
    .refine⟨_,?_,h4⟩
     unfold putV;rw[show(V.ag w l).size=w from rfl,hc,show(V.ag w l).us=l from rfl,h5,q4F hu];rfl
    .exact slow h
   cases ho:Nat.beq o 0 with
   |false=>rw[ho]at h;exact part (by rw[ho];rfl) h
   |true=>
    rw[ho]at h
    cases hs:Nat.beq s w with
    |false=>rw[hs]at h;exact part (by rw[hs];simp) h
    |true=>
     rw[hs]at h;refine⟨x,?_,h⟩;unfold putV;rw[show(V.ag w l).size=w from rfl,ho,hs];rfl
  |qq sg n d=>exact whole 3 rfl h
  |_=>exact whole 1 rfl h
 .exact slow h
theorem Ko{S0:S}{k:Key}{b:KB}{K:V->S->RO}(h:setS S0 k b K= .ok v2 s2):K (.tu []) ⟨mset S0.m k (some b),S0.nx,S0.dn,S0.sc⟩= .ok v2 s2:=by
 obtain⟨m,nx,dn,sc⟩:=S0;have h:K (.tu []) ⟨AQ m k (some b),nx,dn,sc⟩= .ok v2 s2:=h;rw[NF]at h;exact h
theorem Ve{P:Program}{t:TypeId}{g:Bool}{s:Nat}{S0:S}{p x:V}{K:V->S->RO}(hs:qQ P t=some (g,s))(h:AW s S0 p x K= .ok v2 s2):
  ∃s1,ap S0 (A6 P S0.m t p x)= .ok (.tu []) s1/\K (.tu []) s1= .ok v2 s2:=by
 unfold AW at h;rcases GM h with⟨k,o,e,h'⟩|⟨k,i,o,w,e,h'⟩<;>subst e<;>rw[NA]at h'
 .obtain⟨v,hb,h'⟩:=TX h'
  obtain⟨h1,h2,y,h3,h4⟩:=Q1 h';refine⟨_,?_,Ko h4⟩
  have:A6 P S0.m t (.pp k o) x= .wr (.tu []) [(k,.bx v)] k (.bx y):=by
   simp only[A6,hs,hb,h3];rw[h2,h1,Nat.beq_refl];rfl
  rw[this];rfl
 .rcases TY h' with⟨es,n,q,hb,h'⟩|⟨es,n,q,hb,h'⟩<;>obtain⟨hc,h'⟩:=zr h'<;>obtain⟨h1,h2,y,h3,h4⟩:=Q1 h'<;>rw[jD]at hc
  .refine⟨_,?_,Ko h4⟩
   have:A6 P S0.m t (.ee k i o w) x= .wr (.tu []) [(k,.arr es n q)] k (.arr es n (Sq.set y q i)):=by
    simp only[A6,hs,hb,h3];rw[h2,h1,Nat.beq_refl,hc.1,hc.2];rfl
   rw[this];rfl
  .refine⟨_,?_,Ko h4⟩
   have:A6 P S0.m t (.ee k i o w) x= .wr (.tu []) [(k,.gro es n q)] k (.gro es n (Sq.set y q i)):=by
    simp only[A6,hs,hb,h3];rw[h2,h1,Nat.beq_refl,hc.1,hc.2];rfl
   rw[this];rfl
theorem IZ{d:D16}{f:D16->RO}{z:RO}(h:nxD d f z= .ok v2 s2):(∃d',d.next=some d'/\f d'= .ok v2 s2)\/(d.next=none/\z= .ok v2 s2):=by
 cases d<;>first|exact .inl ⟨_,rfl,h⟩|exact .inr ⟨rfl,h⟩
theorem XC{k:Key}{f:Key->RO}(h:BY k f= .ok v2 s2): ∃k',k.succ=some k'/\f k'= .ok v2 s2:=by
 obtain⟨a,b,c,d⟩:=k;rcases IZ (show nxD d _ _= .ok v2 s2 from h)with⟨d',e,h⟩|⟨ed,h⟩
 .exact⟨_,by simp only[Key.succ,e],h⟩
 rcases IZ h with⟨d',e,h⟩|⟨ec,h⟩
 .exact⟨_,by simp only[Key.succ,ed,e],h⟩
 rcases IZ h with⟨d',e,h⟩|⟨eb,h⟩
 .exact⟨_,by simp only[Key.succ,ed,ec,e],h⟩
 rcases IZ h with⟨d',e,h⟩|⟨ea,h⟩
 .exact⟨_,by simp only[Key.succ,ed,ec,eb,e],h⟩
 cases h
theorem Qa{S0:S}{v:V}{K:V->S->RO}(h:newF S0 v K= .ok v2 s2): ∃s1,ap S0 (.nw (.pp S0.nx 0) [] (.bx v))= .ok (.pp S0.nx 0) s1/\K (.pp S0.nx 0) s1= .ok v2 s2:=by
 obtain⟨m,nx,dn,sc⟩:=S0;have h:BY nx (λk'=>K (.pp nx 0) ⟨AQ m nx (some (.bx v)),k',dn,sc⟩)= .ok v2 s2:=h;obtain⟨k',e,h⟩:=XC h;rw[NF]at h;refine⟨_,?_,h⟩;show putK m nx dn sc _ _=_;unfold putK;rw[e]
theorem DZ{r:RO}{K:V->S->RO}(h:roK r K= .ok v2 s2): ∃v s,r= .ok v s/\K v s= .ok v2 s2:=by cases r<;>first|exact⟨_,_,rfl,h⟩|cases h
end
end
noncomputable section
section
variable {v2:V} {s2:S}
theorem PJ(a b:D16)(e:Env16):(gTab a b).f e=Mh a b e.lo:=by cases a<;>cases b<;>rfl
theorem QD(a b:D16)(v:V)(e:Env16):(sTab a b).f v e=⟨Rl a b v e.lo,e.hi⟩:=by cases a<;>cases b<;>rfl
theorem q48{t:Nat}(ht:Nat.blt t 512=true)(e:Env16):(gT t).f e=slot e t:=by
 have ht:t<512:=by simpa using ht
 by_cases h:t<256
 .have e1:gT t=gT0 t:=by unfold gT;rw[Ef h];rfl
  rw[e1,Cg h];unfold gT0 Aj;rw[PJ,Ef h]
 .have e1: ∀e,(gT t).f e=(gT0 (t-256)).f (swE e):=λe=>by unfold gT;rw[LS h];rfl
  rw[e1,Cf h];unfold gT0 Aj;rw[PJ,Ef (show t-256<256 by omega)];rfl
theorem q4y(t:Nat)(v:V)(e:Env16):(sT t).f v e=eset e t v:=by
 by_cases h:t<256
 .have e1:sT t=sT0 t:=by unfold sT;rw[Ef h];rfl
  rw[e1,PA h];unfold sT0 BP;rw[QD]
 .have e1:(sT t).f v e=swE ((sT0 (t-256)).f v (swE e)):=by unfold sT;rw[LS h];rfl
  rw[e1,Pz h];unfold sT0 BP;rw[QD];rfl
theorem PG{X:Type}{v:V}{f:V->Option X}{x:X}(h:frcV v f none=some x):v≠ .und/\f v=some x:=by cases v<;>first|exact⟨by simp,h⟩|cases h
variable {α:Type} {P:Program} {loc D:Nat} {m:Mp α} {fr:α} {e' e:Env16}
def SrcOk(loc:Nat)(fr:α)(e' e:Env16)(t:Nat):Src α->Prop
 | .c v=>slot e t=v/\v≠ .und
 | .g d n f=>(d=true->slot e t≠ .und)/\(∀e'',(∀t',n=t'+1->slot e'' t'=slot e' t')->f fr e''=slot e t)/\ ∀t',n=t'+1->Nat.testBit loc t'=false
 | .dead=>True
structure Inv (loc D:Nat) (m:Mp α) (fr:α) (e' e:Env16):Prop where
 ag: ∀t,Nat.testBit loc t=false->slot e' t=slot e t
 mp: ∀t x,vq t m=some x->Nat.testBit loc t=true/\SrcOk loc fr e' e t x
 df: ∀t,Nat.testBit D t=true->slot e t≠ .und
theorem Ae{x:Operand}{y:Src α}(h:src loc D m x=some y)(hi:Inv loc D m fr e' e):
  (∀v,y= .c v->qa e x=v/\v≠ .und)/\ ∀d n f,y= .g d n f->f fr e'=qa e x/\(d=true->qa e x≠ .und)/\(∀e'',(∀t',n=t'+1->slot e'' t'=slot e' t')->f fr e''=qa e x)/\ ∀t',n=t'+1->Nat.testBit loc t'=false:=by
 cases x with
 |tmp t=>
  show _;have h:(bif Nat.testBit loc t then(match vq t m with|some .dead=>none|y=>y)else(bif Nat.blt t 512 then(match gT t with|⟨f⟩=>some (.g (Nat.testBit D t) (t+1) λ_ e=>f e))else none))=some y:=h
  cases hl:Nat.testBit loc t with
  |true=>
   rw[hl,cond_true]at h
   have h:vq t m=some y:=by
    split at h
    .cases h
    .exact h
   obtain⟨_,h2⟩:=hi.mp t y h;refine⟨λv e=>?_,λd n f e=>?_⟩
   .subst e;exact h2
   .subst e;exact⟨h2.2.1 e' λ_ _=>rfl,h2.1,h2.2.1,h2.2.2⟩
  |false=>
   rw[hl,cond_false]at h
   cases hb:Nat.blt t 512 with
   |false=>rw[hb]at h;cases h
   |true=>
    rw[hb,cond_true]at h;have hg: ∀e'',(gT t).f e''=slot e'' t:=λe''=>q48 hb e''
    generalize gT t=q at h hg;obtain⟨f0⟩:=q;cases h;refine⟨λv e=>(by cases e),λd n f eq=>?_⟩;cases eq;have hag:=hi.ag t hl;refine⟨(by show f0 e'=slot e t;rw[<-hag];exact hg e'),hi.df t,λe'' he=>?_,λt' ht=>(by have e1:t=t':=Nat.succ.inj ht;rw[<-e1];exact hl)⟩;show f0 e''=slot e t;rw[<-hag,<-he t rfl];exact hg e''
 |const v=>
  obtain⟨h1,h2⟩:=PG (show frcV (jP v) _ none=some y from h);cases h2;exact⟨λu eq=>by cases eq;exact⟨rfl,h1⟩,λd n f eq=>by cases eq⟩
 |global g=>cases h
 |func f=>cases h;exact⟨λu eq=>by cases eq;exact⟨rfl,by simp⟩,λd n f eq=>by cases eq⟩
theorem qJ{x:Operand}{g:GV α}(h:gv loc D m x=some g)(hi:Inv loc D m fr e' e):g.f fr e'=qa e x:=by
 unfold gv at h;split at h
 .rename_i v hs;cases h;exact((Ae hs hi).1 v rfl).1.symm
 .rename_i d n f hs;cases h;exact((Ae hs hi).2 d n f rfl).1
 .cases h
theorem TK{x:Operand}{g:GV α}(h:gvD loc D m x=some g)(hi:Inv loc D m fr e' e):g.f fr e'=qa e x/\qa e x≠ .und:=by
 unfold gvD at h;split at h
 .rename_i v hs;cases h
  have:=(Ae hs hi).1 v rfl;exact⟨this.1.symm,by rw[this.1];exact this.2⟩
 .rename_i n f hs;cases h
  have:=(Ae hs hi).2 true n f rfl;exact⟨this.1,this.2.1 rfl⟩
 .cases h
theorem AL: ∀{xs:List Operand}{l:VL α},gvs loc D m xs=some l->Inv loc D m fr e' e->l.f fr e'=evs e xs
 |[],l,h,hi=>by cases h;rfl
 |x::r,l,h,hi=>by
  unfold gvs at h;split at h
  .rename_i g l' h1 h2
   cases h;show g fr e'::l' fr e'=qa e x::evs e r;rw[<-qJ h1 hi,<-AL h2 hi]
  .cases h
theorem DH: ∀{xs:List Operand}{l:CD α}{z:RO},dfs loc D m xs=some l->Inv loc D m fr e' e->l.f fr e' z= .ok v2 s2->(∀x∈xs,qa e x≠ .und)/\z= .ok v2 s2
 |[],l,z,h,hi,hz=>by cases h;exact⟨λx hx=>(by simp at hx),hz⟩
 |x::r,l,z,h,hi,hz=>by
  unfold dfs at h;split at h
  .rename_i v hs
   obtain⟨h1,h2⟩:=DH h hi hz;have:=(Ae hs hi).1 v rfl;exact⟨λy hy=>by rcases q5d.1 hy with rfl|hy;(rw[this.1];exact this.2);exact h1 y hy,h2⟩
  .rename_i n f hs
   obtain⟨h1,h2⟩:=DH h hi hz;have:=(Ae hs hi).2 true n f rfl;exact⟨λy hy=>by rcases q5d.1 hy with rfl|hy;exact this.2.1 rfl;exact h1 y hy,h2⟩
  .rename_i n f l' hs hl
   cases h;obtain⟨h3,h4⟩:=Yk (show qD (f fr e') (l' fr e' z)= .ok v2 s2 from hz);obtain⟨h1,h2⟩:=DH hl hi h4;have:=(Ae hs hi).2 false n f rfl;exact⟨λy hy=>by rcases q5d.1 hy with rfl|hy;(rw[<-this.1];exact h3);exact h1 y hy,h2⟩
  .cases h
theorem q0F{r:KR}(h:Vl r)(hr:r.res≠ .und):r= .val r.res []:=by
 rcases h with rfl|⟨v,rfl⟩
 .exact absurd rfl hr
 .rfl
theorem Xk{v:V}(h:v≠ .und):retV v= .val v []:=by cases v<;>first|rfl|exact absurd rfl h
def Told(P:Program)(e:Env16)(s:S)(op:Op)(K:V->RO)(v2:V)(s2:S):Prop:= ∃v,v≠ .und/\(∀rc,zG rc P e s op= .ok v s)/\K v= .ok v2 s2
theorem told{s:S}{op:Op}{K:V->RO}{v:V}(hv:v≠ .und){ks:List (Key×KB)}(h: ∀rc,zG rc P e s op=ap s (kop P e s.m s.nx op))(hk:kop P e s.m s.nx op= .val v ks)(hK:K v= .ok v2 s2):Told P e s op K v2 s2:=
 ⟨v,hv,λrc=>by rw[h rc,hk];rfl,hK⟩
theorem zq{s:S}{op:Op}{K:V->RO}{r:KR}(h: ∀rc,zG rc P e s op=ap s (kop P e s.m s.nx op))(hk:kop P e s.m s.nx op=r)(hr:Vl r)(hK:qF r.res K= .ok v2 s2):Told P e s op K v2 s2:=by
 obtain⟨h1,h2⟩:=A0 hK;exact told h1 h (hk.trans (q0F hr h1)) h2
theorem Qe: ∀(i:Nat){l:List V}{K:V->RO},(nthC i).f l K= .ok v2 s2-> ∃v,l[i]?=some v/\v≠ .und/\K v= .ok v2 s2
 |0,[],K,h=>by cases h
 |0,v::l,K,h=>⟨v,rfl,A0 h⟩
 |i+1,[],K,h=>by
  unfold nthC at h;revert h;generalize nthC i=q;obtain⟨g⟩:=q;intro h;cases h
 |i+1,v::l,K,h=>by
  have:(nthC i).f l K= .ok v2 s2:=by
   unfold nthC at h;revert h;generalize nthC i=q;obtain⟨g⟩:=q;intro h;exact h
  exact Qe i this
theorem Wi{op:Op}{h:VC α}{s:S}{K:V->RO}(hc:Rh P loc D m op=some h)(hi:Inv loc D m fr e' e)(hv:h.f fr e' s K= .ok v2 s2):Told P e s op K v2 s2:=by
 have hc:vm P loc D m op=some h:=by
  have:Rh P loc D m op=MY.1 P loc D m op:=rfl;rw[this,MY.2]at hc;exact hc
 cases op with
 |load t x=>
  unfold vm at hc;simp only at hc;split at hc
  .rename_i g sz hg hs
   cases hc;have hg:=qJ hg hi;obtain⟨u,ks,h1,h2,h3⟩:=K6 (K:=K) (part:=λv o=>ldA v sz o K (qF (ldS true sz v o []).res K)) hs (λv o ks h=>U5 ks h) hv;exact told h1 (λrc=>rfl) (by show jY P s.m t (qa e x)=_;rw[<-hg];exact h3) h2
  .rename_i g hg hs
   cases hc;have hg:=qJ hg hi;obtain⟨u,ks,h1,h2,h3⟩:=K6 (K:=K) (part:=λv o=>ld1 v o K) hs (λv o ks h=>U4 ks h) hv;exact told h1 (λrc=>rfl) (by show jY P s.m t (qa e x)=_;rw[<-hg];exact h3) h2
  .cases hc
 |binOp op t x y yt=>
  unfold vm at hc;simp only at hc;split at hc
  .rename_i gx sy hgx hsy
   have hx:=qJ hgx hi
   cases hsh:isSh op with
   |true=>
    rw[hsh,cond_true]at hc;split at hc
    .rename_i gy hgy
     cases hc;have hy:=qJ hgy hi;exact zq (λrc=>rfl) (by show kBin P op t (qa e x) (qa e y)=_;rw[<-hx,<-hy]) E3 hv
    .cases hc
   |false=>
    rw[hsh,cond_false]at hc
    have hnn: ∀{k k':IntKind}{a b:Nat},keqF k k'=true->(binH op).f k a b K= .ok v2 s2->qa e x= .nn k a->qa e y= .nn k' b->Told P e s (.binOp op t x y yt) K v2 s2:=by
     intro k k' a b hk hb ex ey;obtain⟨h1,h2⟩:=YH hb;refine told h1 (λrc=>rfl) (ks:=[]) ?_ h2;show kBin P op t (qa e x) (qa e y)=_;rw[ex,ey];rw[PW]at hk;show @Bool.rec (λ_=>KR) (@Bool.rec (λ_=>KR) .bad (retV (binN op k a b)) (keq k k')) (retV (shN op k a b)) (isSh op)=_;rw[hsh,hk];exact Xk h1
    generalize hbh:binH op=bh at hc hnn;obtain⟨hf⟩:=bh
    cases sy with
    |c u=>
     have hy:=((Ae hsy hi).1 u rfl).1
     have gen:some (⟨λfr e _ K=>qF (kBin P op t (gx fr e) u).res K⟩:VC α)=some h->Told P e s (.binOp op t x y yt) K v2 s2:=by
      intro hc;cases hc;exact zq (λrc=>rfl) (by show kBin P op t (qa e x) (qa e y)=_;rw[hy,<-hx]) E3 hv
     cases u with
     |nn kc c=>
      cases hc;rcases Jg hv with⟨k,a,ex,h⟩|⟨hn,h⟩
      .obtain⟨hk,h⟩:=zr h
       exact hnn hk h (by rw[<-hx];exact ex) hy
      .exact zq (λrc=>rfl) (by show kBin P op t (qa e x) (qa e y)=_;rw[hy,<-hx]) E3 h
     |_=>exact gen hc
    |dead=>cases hc
    |g d n gy=>
     have hy:=((Ae hsy hi).2 d n gy rfl).1;cases hc;rcases Jg hv with⟨k,a,ex,h⟩|⟨hn,h⟩
     .rcases Jg h with⟨k',b,ey,h⟩|⟨hn,h⟩
      .obtain⟨hk,h⟩:=zr h
       exact hnn hk h (by rw[<-hx];exact ex) (by rw[<-hy];exact ey)
      .have ex:qa e x= .nn k a:=by rw[<-hx];exact ex
       exact zq (λrc=>rfl) (by show kBin P op t (qa e x) (qa e y)=_;rw[<-hy,ex]) E3 h
     .exact zq (λrc=>rfl) (by show kBin P op t (qa e x) (qa e y)=_;rw[<-hy,<-hx]) E3 h
  .cases hc
 |fieldAddr st x f=>
  unfold vm at hc;simp only at hc;split at hc
  .rename_i g ft sz hg hf
   have hx:g fr e'=qa e x:=qJ hg hi
   cases hz:Nat.beq sz 0 with
   |true=>rw[hz]at hc;cases hc
   |false=>
    rw[hz,cond_false]at hc;cases hc
    rcases GM hv with⟨k,o,ex,h⟩|⟨k,i,o,w,ex,h⟩
    .refine told (by simp) (λrc=>rfl) (ks:=[]) ?_ h
     show jW P st f (qa e x)=_;rw[<-hx,ex];simp only[jW,hf,hz];rfl
    .refine told (by simp) (λrc=>rfl) (ks:=[]) ?_ h
     show jW P st f (qa e x)=_;rw[<-hx,ex];simp only[jW,hf,hz];rfl
  .rename_i g fo ft sz hne hg hf
   have hx:g fr e'=qa e x:=qJ hg hi
   cases hz:Nat.beq sz 0 with
   |true=>rw[hz]at hc;cases hc
   |false=>
    rw[hz,cond_false]at hc;cases hc
    rcases GM hv with⟨k,o,ex,h⟩|⟨k,i,o,w,ex,h⟩
    .refine told (by simp) (λrc=>rfl) (ks:=[]) ?_ h
     show jW P st f (qa e x)=_;rw[<-hx,ex];simp only[jW,hf,hz];rfl
    .refine told (by simp) (λrc=>rfl) (ks:=[]) ?_ h
     show jW P st f (qa e x)=_;rw[<-hx,ex];simp only[jW,hf,hz];rfl
  .cases hc
 |indexAddr t x y=>
  unfold vm at hc;simp only at hc;split at hc
  .rename_i gx gy hgx hgy
   have hx:gx fr e'=qa e x:=qJ hgx hi;have hy:gy fr e'=qa e y:=qJ hgy hi;split at hc
   .rename_i n sz ha
    cases hc;obtain⟨kk,j,ey,h⟩:=Yl hv;rcases GM h with⟨k,o,ex,h⟩|⟨k,q,o,w,ex,h⟩<;>obtain⟨hb,h⟩:=zr h
    .refine told (by simp) (λrc=>rfl) (ks:=[]) ?_ h
     show jX P t (qa e x) (qa e y)=_;rw[<-hx,ex,<-hy,ey];simp only[jX,ha,hb];rfl
    .refine told (by simp) (λrc=>rfl) (ks:=[]) ?_ h
     show jX P t (qa e x) (qa e y)=_;rw[<-hx,ex,<-hy,ey];simp only[jX,ha,hb];rfl
   .split at hc
    .rename_i es ha
     cases hc;obtain⟨kk,j,ey,h⟩:=Yl hv;rcases Ym h with⟨k,lo,n,c,w,ex,h⟩|⟨k,lo,n,w,ex,h⟩|h
     .obtain⟨hb,h⟩:=zr h
      rw[jD]at hb;refine told (by simp) (λrc=>rfl) (ks:=[]) ?_ h;show jX P t (qa e x) (qa e y)=_;rw[<-hx,ex,<-hy,ey];simp only[jX,ha];rw[hb.1,hb.2];rfl
     .obtain⟨hb,h⟩:=zr h
      rw[jD]at hb;refine told (by simp) (λrc=>rfl) (ks:=[]) ?_ h;show jX P t (qa e x) (qa e y)=_;rw[<-hx,ex,<-hy,ey];simp only[jX,ha];rw[hb.1,hb.2];rfl
     .cases h
    .cases hc
  .cases hc
 |nilCheck x=>
  unfold vm at hc;simp only at hc;split at hc
  .rename_i g hg
   cases hc;have hx:g fr e'=qa e x:=qJ hg hi;rcases GM hv with⟨k,o,ex,h⟩|⟨k,i,o,w,ex,h⟩
   .exact told (by simp) (λrc=>rfl) (ks:=[]) (by show wJ (qa e x)=_;rw[<-hx,ex];rfl) h
   .exact told (by simp) (λrc=>rfl) (ks:=[]) (by show wJ (qa e x)=_;rw[<-hx,ex];rfl) h
  .cases hc
 |unOp o t x=>
  have gen: ∀{g:GV α},gv loc D m x=some g->some (⟨λfr e _ K=>qF (kUn P o (g.f fr e)).res K⟩:VC α)=some h->Told P e s (.unOp o t x) K v2 s2:=by
   intro g hg hc;cases hc;exact zq (λrc=>rfl) (by show kUn P o (qa e x)=_;rw[<-qJ hg hi]) (Yw (P:=P)) hv
  unfold vm at hc
  cases o with
  |not=>
   simp only at hc;split at hc
   .rename_i g hg
    cases hc;have hx:g fr e'=qa e x:=qJ hg hi;obtain⟨b,ex,h⟩:=S9 hv;exact told (by simp) (λrc=>rfl) (ks:=[]) (by show kUn P .not (qa e x)=_;rw[<-hx,ex,Kc];rfl) h
   .cases hc
  |_=>
   simp only at hc;split at hc
   .rename_i g hg;exact gen hg hc
   .cases hc
 |pick c x y=>
  unfold vm at hc;simp only at hc;split at hc
  .rename_i gx gy gc hgx hgy hgc
   cases hc;obtain⟨hx,nx⟩:=TK hgx hi;obtain⟨hy,ny⟩:=TK hgy hi;have hx:gx fr e'=qa e x:=hx;have hy:gy fr e'=qa e y:=hy;have hcc:gc fr e'=qa e c:=qJ hgc hi;obtain⟨b,ec,h⟩:=S9 hv
   have hk:D2 (qa e c) (qa e x) (qa e y)= .val (@Bool.rec (λ_=>V) (qa e y) (qa e x) b) []:=by
    rw[<-hcc,ec];show @Bool.rec (λ_=>KR) _ _ (isU (qa e x)||isU (qa e y))=_;have ux:isU (qa e x)=false:=by cases hq:qa e x<;>first|rfl|exact absurd hq nx
    have uy:isU (qa e y)=false:=by cases hq:qa e y<;>first|rfl|exact absurd hq ny
    rw[ux,uy];rfl
   cases b with
   |true=>rw[hx]at h;exact told nx (λrc=>rfl) hk h
   |false=>rw[hy]at h;exact told ny (λrc=>rfl) hk h
  .split at hc
   .rename_i gx gy gc hgx hgy hgc
    cases hc;have hx:gx fr e'=qa e x:=qJ hgx hi;have hy:gy fr e'=qa e y:=qJ hgy hi;have hcc:gc fr e'=qa e c:=qJ hgc hi;exact zq (λrc=>rfl) (by show D2 (qa e c) (qa e x) (qa e y)=_;rw[<-hx,<-hy,<-hcc]) QR hv
   .cases hc
 |convert st t x=>
  unfold vm at hc;simp only at hc;split at hc
  .rename_i g k us hg hk hs
   cases hc;have hx:g fr e'=qa e x:=qJ hg hi;have hkc:wo P s.m st t (qa e x)=D1 P st t (qa e x):=by unfold wo;rw[hk]
   rcases Jg hv with⟨kk,n,ex,h⟩|⟨hn,h⟩
   .have h:=IX h
    refine told (by have:=(CC [] k n).1;intro e0;rw[e0]at this;cases this) (λrc=>rfl) (ks:=[]) ?_ h;show wo P s.m st t (qa e x)=_;rw[hkc,<-hx,ex];simp only[D1,hk,hs];rfl
   .exact zq (λrc=>rfl) (by show wo P s.m st t (qa e x)=_;rw[hkc,<-hx]) Ku h
  .cases hc
 |extract x i=>
  unfold vm at hc;simp only at hc
  have hc2: ∀(q:NT),q=nthC i->(match gv loc D m x,q with|some ⟨x⟩,⟨g⟩=>some (⟨λfr e _ K=>qT (x fr e) λl=>g l K⟩:VC α)|none,_=>none)=some h->Told P e s (.extract x i) K v2 s2:=by
   intro q hq hc;obtain⟨g⟩:=q
   cases hgx:gv loc D m x with
   |none=>rw[hgx]at hc;cases hc
   |some gx=>
    obtain⟨gx⟩:=gx;rw[hgx]at hc;cases hc;have hx:gx fr e'=qa e x:=qJ hgx hi;obtain⟨l,ex,h⟩:=q4u hv;have h:(nthC i).f l K= .ok v2 s2:=by rw[<-hq];exact h
    obtain⟨v,h1,h2,h3⟩:=Qe i h;refine told h2 (λrc=>rfl) (ks:=[]) ?_ h3;show As (qa e x) i=_;rw[<-hx,ex];simp only[As,nth,h1]
  exact hc2 _ rfl hc
 |field st x f=>
  unfold vm at hc;simp only at hc;split at hc
  .rename_i g hg
   cases hc;have hx:g fr e'=qa e x:=qJ hg hi;exact zq (λrc=>rfl) (by show Cw P st f (qa e x)=_;rw[<-hx]) OA hv
  .cases hc
 |index t x y=>
  unfold vm at hc;simp only at hc;split at hc
  .rename_i gx gy hgx hgy
   cases hc;have hx:gx fr e'=qa e x:=qJ hgx hi;have hy:gy fr e'=qa e y:=qJ hgy hi;exact zq (λrc=>rfl) (by show Cy P t (qa e x) (qa e y)=_;rw[<-hx,<-hy]) OD hv
  .cases hc
 |build t ps=>
  unfold vm at hc;simp only at hc;split at hc
  .rename_i l hl
   cases hc;have hx:l fr e'=evs e (ps.toList.map (·.2)):=AL hl hi;exact zq (λrc=>rfl) (by show Cv P t _ (evs e (ps.toList.map (·.2)))=_;rw[<-hx]) Oz hv
  .cases hc
 |makeFunc fn fs cs=>
  unfold vm at hc;simp only at hc;split at hc
  .rename_i l0 l hl0 hl
   cases hc;have hx:l fr e'=evs e cs.toList:=AL hl hi;have hx0:l0 fr e'=evs e fs.toList:=AL hl0 hi;exact zq (λrc=>rfl) (by show EC fn (evs e fs.toList) (evs e cs.toList)=_;rw[<-hx,<-hx0]) QP hv
  .cases hc
 |slice t x lo hi' mx=>
  cases mx with
  |some z=>unfold vm at hc;cases hc
  |none=>
   unfold vm at hc;simp only at hc;split at hc
   .rename_i g hg
    have hx:g fr e'=qa e x:=qJ hg hi
    cases lo with
    |none=>cases hi' with
     |none=>
      cases hc;exact zq (λrc=>rfl) (by show vV P t (qa e x) none none=_;rw[<-hx]) CM hv
     |some r=>
      simp only at hc;split at hc
      .rename_i gl hgl
       cases hc;have hl:gl fr e'=qa e r:=qJ hgl hi;exact zq (λrc=>rfl) (by show vV P t (qa e x) none (some (qa e r))=_;rw[<-hx,<-hl]) CM hv
      .cases hc
    |some l=>cases hi' with
     |none=>
      simp only at hc;split at hc
      .rename_i gl hgl
       cases hc;have hl:gl fr e'=qa e l:=qJ hgl hi;exact zq (λrc=>rfl) (by show vV P t (qa e x) (some (qa e l)) none=_;rw[<-hx,<-hl]) CM hv
      .cases hc
     |some r=>
      simp only at hc;split at hc
      .rename_i gl gr hgl hgr
       cases hc;have hl:gl fr e'=qa e l:=qJ hgl hi;have hr:gr fr e'=qa e r:=qJ hgr hi;exact zq (λrc=>rfl) (by show vV P t (qa e x) (some (qa e l)) (some (qa e r))=_;rw[<-hx,<-hl,<-hr]) CM hv
      .cases hc
   .cases hc
 |call c=>
  obtain⟨cl,xs,ts⟩:=c;unfold vm at hc
  cases cl with
  |builtin b=>
   cases b with
   |len=>
    simp only at hc;split at hc
    .rename_i x t hxs hts
     have hop: ∀rc,zG rc P e s (.call {callee:= .builtin .len,args:=xs,argTypes:=ts})=ap s (kop P e s.m s.nx (.call {callee:= .builtin .len,args:=xs,argTypes:=ts})):=λrc=>rfl
     have hk:kop P e s.m s.nx (.call {callee:= .builtin .len,args:=xs,argTypes:=ts})=kLen P t (qa e x):=by
      show zo P .len ts.toList (evs e xs.toList) s.m s.nx=_;rw[hxs,hts];rfl
     split at hc
     .rename_i g hg
      have hx:g fr e'=qa e x:=qJ hg hi
      cases hsl:jB P t with
      |true=>
       rw[hsl,cond_true]at hc;cases hc;rcases Ym hv with⟨k,lo,n,c,w,ex,h⟩|⟨k,lo,n,w,ex,h⟩|h
       .exact told (by simp) hop (ks:=[]) (by rw[hk,<-hx,ex];simp only[kLen,hsl]) h
       .exact told (by simp) hop (ks:=[]) (by rw[hk,<-hx,ex];simp only[kLen,hsl]) h
       .exact zq hop (by rw[hk,<-hx]) OF h
      |false=>
       rw[hsl,cond_false]at hc;cases hc;exact zq hop (by rw[hk,<-hx]) OF hv
     .cases hc
    .cases hc
   |_=>cases hc
  |_=>cases hc
 |_=>unfold vm at hc;cases hc
end
end
noncomputable section
structure RcLe (pr:vH) (call:FuncId->Row->Nat->S->RO) (rc:FuncId->List V->S->RO):Prop where
 code: ∀f w n s v s',call f w n s= .ok v s'->n<=16/\((jz (rowL w n)).c0=w->(∀x∈rowL w n,x≠ .und)->v≠ .und/\rc f (rowL w n) s= .ok v s')
 prim: ∀f g,pr f=some g-> ∀vs s v s',g vs s= .ok v s'->rc f vs s= .ok v s'
section
variable {v2:V} {s2:S} {α γ:Type} {P:Program} {pr:vH} {rg:RG γ} {loc D:Nat} {m:Mp α} {fr:α} {e' e:Env16} {c:γ} {rc:FuncId->List V->S->RO}
theorem HV: ∀{l:List V},l.length<=16->rowL (jz l).c0 l.length=l:=by
 intro l hl;apply List.ext_getElem?;intro i;unfold rowL;by_cases hi:i<l.length
 .rw[q53 hi]
  have hn: ∀j,(h:j<l.length)->l[j]?=some (nthV l j):=λj h=>by unfold nthV;rw[q4X,q51 h];rfl
  rw[hn i hi];have hi16:i<16:=by omega
  match i,hi16 with
  |0,_=>rfl
  |1,_=>rfl
  |2,_=>rfl
  |3,_=>rfl
  |4,_=>rfl
  |5,_=>rfl
  |6,_=>rfl
  |7,_=>rfl
  |8,_=>rfl
  |9,_=>rfl
  |10,_=>rfl
  |11,_=>rfl
  |12,_=>rfl
  |13,_=>rfl
  |14,_=>rfl
  |15,_=>rfl
  |k+16,h=>omega
 .rw[q52 (by rw[q5a];omega),q52 (by omega)]
theorem Xs{xs:List Operand}{w:RW α}(h:GP loc D m xs=some w)(hi:Inv loc D m fr e' e)(hn:xs.length<=16):rowL (w.f fr e') xs.length=evs e xs/\(jz (rowL (w.f fr e') xs.length)).c0=w.f fr e':=by
 match xs,h,hn with
 |[],h,_=>cases h;exact⟨rfl,rfl⟩
 |[a],h,_=>
  unfold GP at h;simp only at h;split at h
  .rename_i ga hga
   cases h;have ha:ga fr e'=qa e a:=qJ hga hi;refine⟨?_,rfl⟩;show[ga fr e']=[qa e a];rw[ha]
  .cases h
 |[a,b],h,_=>
  unfold GP at h;simp only at h;split at h
  .rename_i ga gb hga hgb
   cases h;have ha:ga fr e'=qa e a:=qJ hga hi;have hb:gb fr e'=qa e b:=qJ hgb hi;refine⟨?_,rfl⟩;show[ga fr e',gb fr e']=[qa e a,qa e b];rw[ha,hb]
  .cases h
 |[a,b,d],h,_=>
  unfold GP at h;simp only at h;split at h
  .rename_i ga gb gd hga hgb hgd
   cases h;have ha:ga fr e'=qa e a:=qJ hga hi;have hb:gb fr e'=qa e b:=qJ hgb hi;have hd:gd fr e'=qa e d:=qJ hgd hi;refine⟨?_,rfl⟩;show[ga fr e',gb fr e',gd fr e']=[qa e a,qa e b,qa e d];rw[ha,hb,hd]
  .cases h
 |a::b::d::f::xr,h,hn=>
  unfold GP at h;simp only at h;split at h
  .rename_i l hl
   cases h;have hx:l fr e'=evs e (a::b::d::f::xr):=AL hl hi;have hlen:(evs e (a::b::d::f::xr)).length=(a::b::d::f::xr).length:=by simp[evs]
   show rowL (jz (l fr e')).c0 _=_/\(jz (rowL (jz (l fr e')).c0 _)).c0=(jz (l fr e')).c0;rw[hx,<-hlen];have:=HV (l:=evs e (a::b::d::f::xr)) (by rw[hlen];exact hn);exact⟨this,by rw[this]⟩
  .cases h
theorem Ff{xs:List Operand}(h: ∀x∈xs,qa e x≠ .und):AI (evs e xs)=true:=by
 unfold AI evs;rw[List.all_eq_true];intro v hv;obtain⟨x,hx,rfl⟩:=List.mem_map.1 hv;have:=h x hx;cases hq:qa e x<;>first|rfl|exact absurd hq this
theorem KF{l:List V}(h:AI l=true): ∀v∈l,v≠ .und:=λv hv e=>by
 unfold AI at h;have:=List.all_eq_true.1 h v hv;rw[e]at this;cases this
theorem Wf{op:Op}{h:HK α}{s:S}(hc:Ah P loc D m op=some h)(hi:Inv loc D m fr e' e)(rc:FuncId->List V->S->RO):zG rc P e s op=ap s (h.f fr e' s):=by
 cases op with
 |buildSlice t n ps=>
  unfold Ah at hc;simp only at hc;split at hc
  .rename_i l hl
   cases hc;have hx:l fr e'=evs e (ps.toList.map (·.2)):=AL hl hi;show ap s (zb P t n _ (evs e (ps.toList.map (·.2))) s.nx)=ap s (zb P t n _ (l fr e') s.nx);rw[hx]
  .cases hc
 |makeSlice t x y=>
  unfold Ah at hc;simp only at hc;split at hc
  .rename_i gx gy hgx hgy
   cases hc;have hx:gx fr e'=qa e x:=qJ hgx hi;have hy:gy fr e'=qa e y:=qJ hgy hi;show ap s (zE P t (qa e x) (qa e y) s.nx)=ap s (zE P t (gx fr e') (gy fr e') s.nx);rw[hx,hy]
  .cases hc
 |makeMap t r=>
  cases r with
  |none=>cases hc;rfl
  |some z=>cases hc
 |lookup t x y b=>
  unfold Ah at hc;simp only at hc;split at hc
  .rename_i gx gy hgx hgy
   cases hc;have hx:gx fr e'=qa e x:=qJ hgx hi;have hy:gy fr e'=qa e y:=qJ hgy hi;show ap s (vn P s.m t b (qa e x) (qa e y))=ap s (vn P s.m t b (gx fr e') (gy fr e'));rw[hx,hy]
  .cases hc
 |mapUpdate t x y z=>
  unfold Ah at hc;simp only at hc;split at hc
  .rename_i gx gy gz hgx hgy hgz
   cases hc;have hx:gx fr e'=qa e x:=qJ hgx hi;have hy:gy fr e'=qa e y:=qJ hgy hi;have hz:gz fr e'=qa e z:=qJ hgz hi;show ap s (DL P s.m t (qa e x) (qa e y) (qa e z))=ap s (DL P s.m t (gx fr e') (gy fr e') (gz fr e'));rw[hx,hy,hz]
  .cases hc
 |mapEntry t x y=>
  unfold Ah at hc;simp only at hc;split at hc
  .rename_i gx gy hgx hgy
   cases hc;have hx:gx fr e'=qa e x:=qJ hgx hi;have hy:gy fr e'=qa e y:=qJ hgy hi;show ap s (AA P s.m t (qa e x) (qa e y))=ap s (AA P s.m t (gx fr e') (gy fr e'));rw[hx,hy]
  .cases hc
 |entryStore t x y z=>
  unfold Ah at hc;simp only at hc;split at hc
  .rename_i gx gy gz hgx hgy hgz
   cases hc;have hx:gx fr e'=qa e x:=qJ hgx hi;have hy:gy fr e'=qa e y:=qJ hgy hi;have hz:gz fr e'=qa e z:=qJ hgz hi;show ap s (wv s.m (qa e x) (qa e y) (qa e z))=ap s (wv s.m (gx fr e') (gy fr e') (gz fr e'));rw[hx,hy,hz]
  .cases hc
 |convert st t x=>
  unfold Ah at hc;simp only at hc;split at hc
  .rename_i gx hgx
   cases hc;have hx:gx fr e'=qa e x:=qJ hgx hi;show ap s (wo P s.m st t (qa e x))=ap s (wo P s.m st t (gx fr e'));rw[hx]
  .cases hc
 |call cc=>
  obtain⟨cl,xs,ts⟩:=cc;unfold Ah at hc
  cases cl with
  |builtin b=>
   simp only at hc;split at hc
   .rename_i l hl
    have hx:l fr e'=evs e xs.toList:=AL hl hi
    have gen:some (⟨λfr e s=>zo P b ts.toList (l fr e) s.m s.nx⟩:HK α)=some h->zG rc P e s (.call {callee:= .builtin b,args:=xs,argTypes:=ts})=ap s (h.f fr e' s):=by
     intro hc;cases hc;show ap s (zo P b ts.toList (evs e xs.toList) s.m s.nx)=ap s (zo P b ts.toList (l fr e') s.m s.nx);rw[hx]
    cases b with
    |append=>
     simp only at hc;split at hc
     .rename_i t u x y hts hxs
      split at hc
      .rename_i gx gy hgx hgy
       cases hc;have hx:gx fr e'=qa e x:=qJ hgx hi;have hy:gy fr e'=qa e y:=qJ hgy hi;show ap s (zo P .append ts.toList (evs e xs.toList) s.m s.nx)=ap s (DK P t u s.m (gx fr e') (gy fr e') s.nx);rw[hts,hxs,hx,hy];rfl
      .cases hc
     .cases hc
    |_=>exact gen hc
   .cases hc
  |_=>cases hc
 |_=>unfold Ah at hc;cases hc
theorem MW{op:Op}{h:OC γ α}{s:S}{K:V->S->RO}(hr:RcLe pr (rg.f c) rc)(hc:LU P pr rg loc D m op=some h)(hi:Inv loc D m fr e' e)(hv:h.f c fr e' s K= .ok v2 s2):
  ∃v s1,v≠ .und/\zG rc P e s op= .ok v s1/\K v s1= .ok v2 s2:=by
 have hc:Is P pr rg loc D m op=some h:=by
  have:LU P pr rg loc D m op=MV.1 P pr rg loc D m op:=rfl;rw[this,MV.2]at hc;exact hc
 have other:(match Ah P loc D m op with|some ⟨h⟩=>some (⟨λ_ fr e s K=>roK (ap s (h fr e s)) λv s=>qF v λv=>K v s⟩:OC γ α)|none=>none)=some h-> ∃v s1,v≠ .und/\zG rc P e s op= .ok v s1/\K v s1= .ok v2 s2:=by
  intro hc;split at hc
  .rename_i g hg
   cases hc;obtain⟨v,s1,h1,h2⟩:=DZ hv;obtain⟨h3,h4⟩:=A0 h2;exact⟨v,s1,h3,by rw[Wf hg hi rc];exact h1,h4⟩
  .cases hc
 unfold Is at hc
 cases op with
 |store t x y=>
  simp only at hc;split at hc
  .rename_i gx gy g sz hgx hgy hs
   cases hc;have hx:gx fr e'=qa e x:=qJ hgx hi;have hy:gy fr e'=qa e y:=qJ hgy hi;obtain⟨s1,h1,h2⟩:=Ve (p:=gx fr e') (x:=gy fr e') hs hv;rw[hx,hy]at h1;exact⟨_,s1,by simp,h1,h2⟩
  .cases hc
 |alloc t=>
  simp only at hc;obtain⟨h1,h2⟩:=PG hc;cases h2;obtain⟨s1,h3,h4⟩:=Qa hv;refine⟨_,s1,by simp,?_,h4⟩;show ap s (Cu P t s.nx)=_;unfold Cu;have:isU (zeroV P t)=false:=by cases hq:zeroV P t<;>first|rfl|exact absurd hq h1
  rw[this];exact h3
 |box t x=>
  simp only at hc;split at hc
  .rename_i g hg
   cases hc;have hx:g fr e'=qa e x:=qJ hg hi;obtain⟨h1,h2⟩:=Sa hv;obtain⟨s1,h3,h4⟩:=Qa h2;rw[hx]at h1 h3;refine⟨_,s1,by simp,?_,h4⟩;show ap s (kBox s.nx (qa e x))=_;unfold kBox;rw[h1];exact h3
  .cases hc
 |call cc=>
  obtain⟨cl,xs,ts⟩:=cc
  cases cl with
  |builtin b=>exact other hc
  |value f=>
   clear other;obtain⟨r0⟩:=rg
   have dyn: ∀{gf:GV α}{l:VL α}{d:CD α}{r:γ->FuncId->Row->Nat->S->RO},gv loc D m f=some gf->gvs loc D m xs.toList=some l->dfs loc D m xs.toList=some d->r0=r->
     (@Option.rec (FuncId×List (Key×Nat)) (λ_=>RO) (.no [4]) (λp=>d.f fr e' (roK ((λvs=>r c p.1 (jz vs).c0 vs.length s) (AS (gf.f fr e')++(l.f fr e'++p.2.map λp=> .pp p.1 p.2))) K)) (zl (gf.f fr e'))= .ok v2 s2)->
     ∃v s1,v≠ .und/\zG rc P e s (.call {callee:= .value f,args:=xs,argTypes:=ts})= .ok v s1/\K v s1= .ok v2 s2:=by
    intro gf l d r hgf hl hd hrg hv;have hf:=qJ hgf hi;have hx:=AL hl hi
    cases hcal:zl (gf.f fr e')with
    |none=>rw[hcal]at hv;cases hv
    |some p=>
     rw[hcal]at hv;obtain⟨g,ps⟩:=p;obtain⟨h1,h2⟩:=DH hd hi hv;obtain⟨v,s1,h3,h4⟩:=DZ h2;subst hrg;obtain⟨h5,h7⟩:=hr.code _ _ _ _ _ _ h3;rw[hx]at h5 h7;have hao:=Ff h1;rw[HV h5]at h7
     obtain⟨h6,h7⟩:=h7 rfl λx hx=>by
      rcases q5c.1 hx with hx|hx
      .exact O0 x hx
      rcases q5c.1 hx with hx|hx
      .exact KF hao x hx
      .obtain⟨q,_,rfl⟩:=List.mem_map.1 hx;simp
     refine⟨v,s1,h6,?_,h4⟩;show kcall rc s (zl (qa e f)) (AS (qa e f)) (evs e xs.toList)=_;rw[<-hf,hcal];show @Bool.rec (λ_=>RO) _ _ (AI (evs e xs.toList))=_;rw[hao];exact h7
   cases f with
   |func g=>
    simp only at hc;have hcal:zl (qa e (.func g))=some (g,[]):=rfl;split at hc
    .rename_i h0 hp
     split at hc
     .rename_i l d hl hd
      cases hc;have hx:l fr e'=evs e xs.toList:=AL hl hi;obtain⟨h1,h2⟩:=DH hd hi hv;obtain⟨v,s1,h3,h4⟩:=DZ h2;obtain⟨h5,h6⟩:=A0 h4;refine⟨v,s1,h5,?_,h6⟩;show kcall rc s (zl (qa e (.func g))) [] (evs e xs.toList)=_;rw[hcal];show @Bool.rec (λ_=>RO) _ (rc g (evs e xs.toList++[]) s) (AI (evs e xs.toList))=_;rw[Ff h1,List.append_nil];rw[hx]at h3;exact hr.prim g h0 hp _ _ _ _ h3
     .cases hc
    .split at hc
     .rename_i w d r hw hd hrg
      cases hrg;cases hc;obtain⟨h1,h2⟩:=DH hd hi hv;obtain⟨v,s1,h3,h4⟩:=DZ h2;obtain⟨h5,h7⟩:=hr.code _ _ _ _ _ _ h3
      have hrow:rowL (w fr e') xs.size=evs e xs.toList/\(jz (rowL (w fr e') xs.size)).c0=w fr e':=by
       have:=Xs hw hi (by simpa using h5);simpa using this
      have hao:=Ff h1;obtain⟨h6,h7⟩:=h7 hrow.2 (by rw[hrow.1];exact KF hao);rw[hrow.1]at h7;refine⟨v,s1,h6,?_,h4⟩;show kcall rc s (zl (qa e (.func g))) [] (evs e xs.toList)=_;rw[hcal];show @Bool.rec (λ_=>RO) _ (rc g (evs e xs.toList++[]) s) (AI (evs e xs.toList))=_;rw[hao,List.append_nil];exact h7
     .cases hc
   |tmp t=>
    simp only at hc;split at hc
    .rename_i gf l d r hgf hl hd hrg
     cases hrg;cases hc;exact dyn hgf hl hd rfl hv
    .cases hc
   |const t=>
    simp only at hc;split at hc
    .rename_i gf l d r hgf hl hd hrg
     cases hrg;cases hc;exact dyn hgf hl hd rfl hv
    .cases hc
   |global t=>
    simp only at hc;split at hc
    .rename_i gf l d r hgf hl hd hrg
     cases hrg;cases hc;exact dyn hgf hl hd rfl hv
    .cases hc
  |_=>exact other hc
 |_=>exact other hc
end
end
noncomputable section
section
variable {v2:V} {s2:S} {α γ:Type} {P:Program} {pr:vH} {rg:RG γ} {loc D:Nat} {m:Mp α} {fr:α} {e' e:Env16} {c:γ} {rc:FuncId->List V->S->RO}
theorem N9(t:Nat): ∀m:Mp α,vq t (upM m)=(vq t m).map Src.up
 |[]=>rfl
 |p::r=>by
  show(bif Nat.beq p.1 t then some p.2.up else vq t (upM r))=Option.map Src.up (bif Nat.beq p.1 t then some p.2 else vq t r)
  cases Nat.beq p.1 t with
  |true=>rfl
  |false=>exact N9 t r
theorem AK(t t':Nat)(x:Src α)(m:Mp α):vq t ((t',x)::m)=bif Nat.beq t' t then some x else vq t m:=rfl
theorem jb{t:Tmp}(ht:t<512)(v:V)(t':Nat):slot (jd e (some t) v) t'=if t'=t then v else slot e t':=CJ v ht t'
theorem SrcOk.up{t:Nat}{x:Src α}{v:V}(h:SrcOk loc fr e' e t x):SrcOk loc (⟨v,fr⟩:Fm α) e' e t x.up:=by
 cases x with
 |c u=>exact h
 |g d n f=>exact h
 |dead=>trivial
theorem SrcOk.env{t t0:Nat}{x:Src α}{v:V}{e1:Env16}(he:slot e1 t=slot e t)(h:SrcOk loc fr e' e t x):SrcOk loc fr e' e1 t x:=by
 cases x with
 |c u=>exact⟨he.trans h.1,h.2⟩
 |g d n f=>exact⟨λhd=>by rw[he];exact h.1 hd,λe'' h1=>by rw[he];exact h.2.1 e'' h1,h.2.2⟩
 |dead=>trivial
theorem PR{t:Tmp}{v:V}(hi:Inv loc D m fr e' e)(ht:t<512)(hl:Nat.testBit loc t=true)(hv:v≠ .und):
  Inv loc D ((t,.g true 0 λfr _=>fr.v)::upM m) (⟨v,fr⟩:Fm α) e' (jd e (some t) v):=by
 refine⟨λt' h=>?_,λt' x hx=>?_,λt' h=>?_⟩
 .rw[jb ht]
  by_cases e:t'=t
  .rw[e,hl]at h;cases h
  .rw[if_neg e];exact hi.ag t' h
 .rw[AK]at hx
  cases hb:Nat.beq t t' with
  |true=>
   rw[hb,cond_true]at hx;have:=q5w hb;subst this;cases hx;have e1:slot (jd e (some t) v) t=v:=by rw[jb ht,if_pos rfl]
   exact⟨hl,λ_=>by rw[e1];exact hv,λe'' _=>e1.symm,λt' h=>by cases h⟩
  |false=>
   rw[hb,cond_false,N9]at hx
   cases hf:vq t' m with
   |none=>rw[hf]at hx;cases hx
   |some y=>
    rw[hf]at hx;cases hx
    obtain⟨h1,h2⟩:=hi.mp t' y hf;have hne: ¬t'=t:=λe=>by rw[e]at hb;simp at hb
    exact⟨h1,(h2.env (t0:=0) (v:=v) (by rw[jb ht,if_neg hne])).up⟩
 .rw[jb ht]
  by_cases e:t'=t
  .rw[if_pos e];exact hv
  .rw[if_neg e];exact hi.df t' h
theorem Fw{t:Tmp}{v:V}{x:Src α}(hi:Inv loc D m fr e' e)(ht:t<512)(hl:Nat.testBit loc t=true)(hv:v≠ .und)(hx:SrcOk loc fr e' (jd e (some t) v) t x):
  Inv loc D ((t,x)::m) fr e' (jd e (some t) v):=by
 refine⟨λt' h=>?_,λt' y hy=>?_,λt' h=>?_⟩
 .rw[jb ht]
  by_cases e:t'=t
  .rw[e,hl]at h;cases h
  .rw[if_neg e];exact hi.ag t' h
 .rw[AK]at hy
  cases hb:Nat.beq t t' with
  |true=>
   rw[hb,cond_true]at hy;have:=q5w hb;subst this;cases hy;exact⟨hl,hx⟩
  |false=>
   rw[hb,cond_false]at hy;obtain⟨h1,h2⟩:=hi.mp t' y hy;have hne: ¬t'=t:=λe=>by rw[e]at hb;simp at hb
   exact⟨h1,h2.env (t0:=0) (v:=v) (by rw[jb ht,if_neg hne])⟩
 .rw[jb ht]
  by_cases e:t'=t
  .rw[if_pos e];exact hv
  .rw[if_neg e];exact hi.df t' h
theorem IC{t0 t:Nat}{x:Src α}: ∀{m:Mp α},vq t (zO t0 m)=some x->x= .dead\/(vq t m=some x/\ ∀d n f,x= .g d n f->n≠t0+1)
 |[],h=>by cases h
 |(q,y)::r,h=>by
  have h:(bif Nat.beq q t then some (Rj t0 y)else vq t (zO t0 r))=some x:=h;rw[AK]
  cases hb:Nat.beq q t with
  |true=>
   rw[hb,cond_true]at h;have h:=Option.some.inj h;subst h
   cases y with
   |c v=>exact .inr ⟨rfl,λd n f e=>by cases e⟩
   |dead=>exact .inl rfl
   |g d n f=>
    show(bif Nat.beq n (t0+1)then Src.dead else .g d n f)= .dead\/(_=some (bif Nat.beq n (t0+1)then Src.dead else .g d n f)/\ ∀d' n' f',(bif Nat.beq n (t0+1)then Src.dead else .g d n f)= .g d' n' f'->n'≠t0+1)
    cases hn:Nat.beq n (t0+1)with
    |true=>exact .inl rfl
    |false=>exact .inr ⟨rfl,λd' n' f' e=>by cases e;intro e2;rw[e2]at hn;simp at hn⟩
  |false=>
   rw[hb,cond_false]at h;exact IC h
theorem C8{t:Tmp}{v:V}(hi:Inv loc D m fr e' e)(ht:t<512)(hl:Nat.testBit loc t=false)(hv:v≠ .und):
  Inv loc (D|||2^t) (zO t m) fr ((sT t).f v e') (jd e (some t) v):=by
 have hs: ∀t',slot ((sT t).f v e') t'=if t'=t then v else slot e' t':=λt'=>by rw[q4y];exact CJ v ht t'
 refine⟨λt' h=>?_,λt' x hx=>?_,λt' h=>?_⟩
 .rw[hs,jb ht]
  by_cases e:t'=t
  .rw[if_pos e,if_pos e]
  .rw[if_neg e,if_neg e];exact hi.ag t' h
 .rcases IC hx with rfl|⟨hx,hn⟩
  .refine⟨?_,trivial⟩
   --its name is still local
   have: ∀m:Mp α,(∀y,vq t' m=some y->Nat.testBit loc t'=true)-> ∀y,vq t' (zO t m)=some y->Nat.testBit loc t'=true:=by
    intro m
    induction m with
    |nil=>intro _ y h;cases h
    |cons p r ih=>
     intro hm y h;obtain⟨q,z⟩:=p;have h:(bif Nat.beq q t' then some (Rj t z)else vq t' (zO t r))=some y:=h
     cases hb:Nat.beq q t' with
     |true=>exact hm z (by rw[AK,hb];rfl)
     |false=>
      rw[hb,cond_false]at h;exact ih (λy hy=>hm y (by rw[AK,hb];exact hy)) y h
   exact this m (λy hy=>(hi.mp t' y hy).1) _ hx
  .obtain⟨h1,h2⟩:=hi.mp t' x hx
   have hne: ¬t'=t:=λe=>by rw[e,hl]at h1;cases h1
   have he:slot (jd e (some t) v) t'=slot e t':=by rw[jb ht,if_neg hne]
   refine⟨h1,?_⟩
   cases x with
   |c u=>exact⟨he.trans h2.1,h2.2⟩
   |dead=>trivial
   |g d n f=>
    refine⟨λhd=>by rw[he];exact h2.1 hd,λe'' h3=>?_,h2.2.2⟩;rw[he];refine h2.2.1 e'' λq hq=>?_
    rw[h3 q hq,hs,if_neg];intro e;subst e;exact hn d n f rfl hq
 .rw[jb ht]
  by_cases e:t'=t
  .rw[if_pos e];exact hv
  .rw[if_neg e]
   refine hi.df t' ?_;rw[Nat.testBit_or,Nat.testBit_two_pow,Bool.or_eq_true]at h;rcases h with h|h
   .exact h
   .exact absurd (of_decide_eq_true h).symm e
def Cont(k:Kont γ α)(loc:Nat)(fr:α)(c:γ)(e1:Env16)(s1:S)(v2:V)(s2:S):Prop:=
 ∃(β:Type)(p:β->α)(mβ:Mp β)(Dβ:Nat)(fb:β)(eb:Env16),p fb=fr/\Inv loc Dβ mβ fb eb e1/\(k β p mβ Dβ).f c fb eb s1= .ok v2 s2
theorem PD{k:Kont γ α}{dst:Option Tmp}{h:VC α}{s:S}(hd: ∀t,dst=some t->t<512)(hi:Inv loc D m fr e' e)(hf:(finV loc D m k dst h).f c fr e' s= .ok v2 s2):
  ∃K,h.f fr e' s K= .ok v2 s2/\ ∀v,v≠ .und->K v= .ok v2 s2->Cont k loc fr c (jd e dst v) s v2 s2:=by
 have hf:(M1 loc D m k dst h).f c fr e' s= .ok v2 s2:=by
  have:finV loc D m k dst h=Rp.1 loc D m k dst h:=rfl;rw[this,Rp.2]at hf;exact hf
 obtain⟨h⟩:=h;unfold M1 at hf
 cases dst with
 |none=>
  simp only at hf;generalize hk:k α id m D=q at hf;obtain⟨K⟩:=q;exact⟨_,hf,λv hv hK=>⟨α,id,m,D,fr,e',rfl,hi,by rw[hk];exact hK⟩⟩
 |some t=>
  simp only at hf
  cases hl:Nat.testBit loc t with
  |true=>
   rw[hl,cond_true]at hf;generalize hk:k (Fm α) (λf=>f.r) ((t,.g true 0 λfr _=>fr.v)::upM m) D=q at hf;obtain⟨K⟩:=q;exact⟨_,hf,λv hv hK=>⟨Fm α,λf=>f.r,_,D,⟨v,fr⟩,e',rfl,PR hi (hd t rfl) hl hv,by rw[hk];exact hK⟩⟩
  |false=>
   rw[hl,cond_false]at hf;generalize hk:k α id (zO t m) (D|||2^t)=q at hf;generalize hs:sT t=st at hf;obtain⟨K⟩:=q;obtain⟨st⟩:=st;refine⟨_,hf,λv hv hK=>⟨α,id,_,_,fr,st v e',rfl,?_,by rw[hk];exact hK⟩⟩;have:=C8 (v:=v) hi (hd t rfl) hl hv;rw[hs]at this;exact this
theorem JM{k:Kont γ α}{dst:Option Tmp}{h:OC γ α}{s:S}(hd: ∀t,dst=some t->t<512)(hi:Inv loc D m fr e' e)(hf:(finO loc D m k dst h).f c fr e' s= .ok v2 s2):
  ∃K,h.f c fr e' s K= .ok v2 s2/\ ∀v s1,v≠ .und->K v s1= .ok v2 s2->Cont k loc fr c (jd e dst v) s1 v2 s2:=by
 have hf:(M0 loc D m k dst h).f c fr e' s= .ok v2 s2:=by
  have:finO loc D m k dst h=Ro.1 loc D m k dst h:=rfl;rw[this,Ro.2]at hf;exact hf
 obtain⟨h⟩:=h;unfold M0 at hf
 cases dst with
 |none=>
  simp only at hf;generalize hk:k α id m D=q at hf;obtain⟨K⟩:=q;exact⟨_,hf,λv s1 hv hK=>⟨α,id,m,D,fr,e',rfl,hi,by rw[hk];exact hK⟩⟩
 |some t=>
  simp only at hf
  cases hl:Nat.testBit loc t with
  |true=>
   rw[hl,cond_true]at hf;generalize hk:k (Fm α) (λf=>f.r) ((t,.g true 0 λfr _=>fr.v)::upM m) D=q at hf;obtain⟨K⟩:=q;exact⟨_,hf,λv s1 hv hK=>⟨Fm α,λf=>f.r,_,D,⟨v,fr⟩,e',rfl,PR hi (hd t rfl) hl hv,by rw[hk];exact hK⟩⟩
  |false=>
   rw[hl,cond_false]at hf;generalize hk:k α id (zO t m) (D|||2^t)=q at hf;generalize hs:sT t=st at hf;obtain⟨K⟩:=q;obtain⟨st⟩:=st;refine⟨_,hf,λv s1 hv hK=>⟨α,id,_,_,fr,st v e',rfl,?_,by rw[hk];exact hK⟩⟩;have:=C8 (v:=v) hi (hd t rfl) hl hv;rw[hs]at this;exact this
theorem Z9{k:Kont γ α}{dst:Option Tmp}{x:Operand}{y:Src α}{s:S}(hd: ∀t,dst=some t->t<512)(hi:Inv loc D m fr e' e)(hs:src loc D m x=some y)(hf:(finM loc D m k dst y).f c fr e' s= .ok v2 s2):
  qa e x≠ .und/\Cont k loc fr c (jd e dst (qa e x)) s v2 s2:=by
 have hf:(LZ loc D m k dst y).f c fr e' s= .ok v2 s2:=by
  have:finM loc D m k dst y=Rm.1 loc D m k dst y:=rfl;rw[this,Rm.2]at hf;exact hf
 have ho:=Ae hs hi;unfold LZ at hf
 cases dst with
 |none=>
  cases y with
  |g d n f=>cases d<;>cases hf
  |_=>cases hf
 |some t=>
  have ht:=hd t rfl;have e1: ∀v,slot (jd e (some t) v) t=v:=λv=>by rw[jb ht,if_pos rfl]
  cases y with
  |dead=>cases hf
  |c v=>
   obtain⟨h1,h2⟩:=ho.1 v rfl;rw[h1];refine⟨h2,?_⟩;simp only at hf
   cases hl:Nat.testBit loc t with
   |true=>
    rw[hl,cond_true]at hf;exact⟨α,id,_,D,fr,e',rfl,Fw (x:= .c v) hi ht hl h2 ⟨e1 v,h2⟩,hf⟩
   |false=>
    rw[hl,cond_false]at hf;generalize hk:k α id (zO t m) (D|||2^t)=q at hf;generalize hst:sT t=st at hf;obtain⟨K⟩:=q;obtain⟨st⟩:=st;have:=C8 (v:=v) hi ht hl h2;rw[hst]at this;exact⟨α,id,_,_,fr,st v e',rfl,this,by rw[hk];exact hf⟩
  |g d n f=>
   obtain⟨h1,h2,h3,h4⟩:=ho.2 d n f rfl;have alias:qa e x≠ .und->SrcOk loc fr e' (jd e (some t) (qa e x)) t (.g true n f):=λhn=>⟨λ_=>by rw[e1];exact hn,λe'' h=>by rw[e1];exact h3 e'' h,h4⟩
   cases d with
   |true=>
    have hn:=h2 rfl;refine⟨hn,?_⟩;simp only at hf
    cases hl:Nat.testBit loc t with
    |true=>
     rw[hl,cond_true]at hf;exact⟨α,id,_,D,fr,e',rfl,Fw hi ht hl hn (alias hn),hf⟩
    |false=>
     rw[hl,cond_false]at hf;generalize hk:k α id (zO t m) (D|||2^t)=q at hf;generalize hst:sT t=st at hf;obtain⟨K⟩:=q;obtain⟨st⟩:=st;have:=C8 (v:=qa e x) hi ht hl hn;rw[hst]at this;have hf:K c fr (st (f fr e') e') s= .ok v2 s2:=hf;rw[h1]at hf;exact⟨α,id,_,_,fr,st (qa e x) e',rfl,this,by rw[hk];exact hf⟩
   |false=>
    simp only at hf
    cases hl:Nat.testBit loc t with
    |true=>
     rw[hl,cond_true]at hf;generalize hk:k α id ((t,.g true n f)::m) D=q at hf;obtain⟨K⟩:=q;obtain⟨hn,hf⟩:=Yk (show qD (f fr e') _= .ok v2 s2 from hf);rw[h1]at hn;exact⟨hn,α,id,_,D,fr,e',rfl,Fw hi ht hl hn (alias hn),by rw[hk];exact hf⟩
    |false=>
     rw[hl,cond_false]at hf;generalize hk:k α id (zO t m) (D|||2^t)=q at hf;generalize hst:sT t=st at hf;obtain⟨K⟩:=q;obtain⟨st⟩:=st;obtain⟨hn,hf⟩:=A0 (show qF (f fr e') (λv=>K c fr (st v e') s)= .ok v2 s2 from hf);rw[h1]at hn hf;have:=C8 (v:=qa e x) hi ht hl hn;rw[hst]at this;exact⟨hn,α,id,_,_,fr,st (qa e x) e',rfl,this,by rw[hk];exact hf⟩
theorem KM{k:Kont γ α}{o:Oper}{s:S}(hr:RcLe pr (rg.f c) rc)(hd: ∀t,o.dst=some t->t<512)(hi:Inv loc D m fr e' e)(hf:(It P pr rg loc D m k o).f c fr e' s= .ok v2 s2):
  ∃v s1,v≠ .und/\zG rc P e s o.op= .ok v s1/\Cont k loc fr c (jd e o.dst v) s1 v2 s2:=by
 unfold It at hf
 have mv: ∀{x:Operand}{y:Src α},src loc D m x=some y->(o.op= .move x\/o.op= .assign x)->(finM loc D m k o.dst y).f c fr e' s= .ok v2 s2-> ∃v s1,v≠ .und/\zG rc P e s o.op= .ok v s1/\Cont k loc fr c (jd e o.dst v) s1 v2 s2:=by
  intro x y hs hop hf;obtain⟨h1,h2⟩:=Z9 hd hi hs hf;refine⟨_,s,h1,?_,h2⟩
  have hk:ap s (Bo (qa e x))= .ok (qa e x) s:=by
   unfold Bo;have:isU (qa e x)=false:=by cases hq:qa e x<;>first|rfl|exact absurd hq h1
   rw[this];rfl
  rcases hop with h|h<;>rw[h]<;>exact hk
 split at hf
 .rename_i y hy
  split at hy
  .rename_i x hop;exact mv hy (.inl hop) hf
  .rename_i x hop;exact mv hy (.inr hop) hf
  .cases hy
 .split at hf
  .rename_i h hc
   obtain⟨K,h1,h2⟩:=PD hd hi hf;obtain⟨v,h3,h4,h5⟩:=Wi hc hi h1;exact⟨v,s,h3,h4 rc,h2 v h3 h5⟩
  .split at hf
   .rename_i h hc
    obtain⟨K,h1,h2⟩:=JM hd hi hf;obtain⟨v,s1,h3,h4,h5⟩:=MW hr hc hi h1;exact⟨v,s1,h3,h4,h2 v s1 h3 h5⟩
   .cases hf
def StepR(rc:FuncId->List V->S->RO)(P:Program)(all:List Oper)(o:Oper)(e:Env16)(s:S)(e1:Env16)(s1:S):Prop:=
 (jg all e o.guard=some false/\e1=jd e o.dst (.tu [])/\s1=s)\/(jg all e o.guard=some true/\ ∃v,v≠ .und/\zG rc P e s o.op= .ok v s1/\e1=jd e o.dst v)
theorem IE {all : List Oper} {o : Oper} {run skip : CF γ α} {s : S} (hd : ∀ t, o.dst = some t -> t < 512) (hi : Inv loc D m fr e' e) (hf : (gdC loc D m all o run skip).f c fr e' s = .ok v2 s2) :
  (jg all e o.guard = some true /\ run.f c fr e' s = .ok v2 s2) \/
   (jg all e o.guard = some false /\ ∃ e1', Inv loc (skD D o.dst) (skM m o.dst) fr e1' (jd e o.dst (.tu [])) /\ skip.f c fr e1' s = .ok v2 s2) := by
 have hf : (gdC0 loc D m all o run skip).f c fr e' s = .ok v2 s2 := by
  have : gdC loc D m all o run skip = gdCP.1 loc D m all o run skip := rfl;rw [this, gdCP.2] at hf; exact hf
 unfold gdC0 at hf
 cases hg : o.guard with
 | none => rw [hg] at hf; exact .inl ⟨rfl, hf⟩
 | some jw =>
  obtain ⟨j, w⟩ := jw;rw [hg] at hf;simp only at hf;split at hf
  .rename_i t ht
   split at hf
   .rename_i g hgv
    have hx : g fr e' = slot e t := qJ hgv hi
    have hgk : ∀ b, slot e t = .bb b -> jg all e (some (j, w)) = some (@Bool.rec (λ_ => Bool) (!b) b w) := λb hb => by
     unfold jg; simp only; rw [ht]; simp only; rw [hb]
    have hgt : slot e t = .tu [] -> jg all e (some (j, w)) = some false := λhb => by
     unfold jg; simp only; rw [ht]; simp only; rw [hb]
    have main : ∀ (A B : RO), qG (g fr e') (λb => @Bool.rec (λ_ => RO) A B (@Bool.rec (λ_ => Bool) (notB b) b w)) A = .ok v2 s2 ->
      (jg all e (some (j, w)) = some true /\ B = .ok v2 s2) \/ (jg all e (some (j, w)) = some false /\ A = .ok v2 s2) := by
     intro A B h;rcases q4t h with ⟨b, eb, h⟩ | ⟨eb, h⟩
     .rw [hx] at eb
      rw [hgk b eb];rw [Kc] at h
      cases hw : (@Bool.rec (λ_ => Bool) (!b) b w) with
      | true => rw [hw] at h; exact .inl ⟨rfl, h⟩
      | false => rw [hw] at h; exact .inr ⟨rfl, h⟩
     .rw [hx] at eb
      exact .inr ⟨hgt eb, h⟩
    split at hf
    .rename_i d hdst
     cases hl : Nat.testBit loc d with
     | true => rw [hl, cond_true] at hf; cases hf
     | false =>
      rw [hl, cond_false] at hf;generalize hst : sT d = st at hf;obtain ⟨st⟩ := st;rcases main _ _ hf with h | ⟨h1, h2⟩
      .exact .inl h
      .refine .inr ⟨h1, st (.tu []) e', ?_, h2⟩
       rw [hdst];have := C8 (v := .tu []) hi (hd d hdst) hl (by simp);rw [hst] at this; exact this
    .rename_i hdst
     rcases main _ _ hf with h | ⟨h1, h2⟩
     .exact .inl h
     .refine .inr ⟨h1, e', ?_, h2⟩
      rw [hdst]; exact hi
   .cases hf
  .cases hf
theorem We{k:Kont γ α}{all:List Oper}{o:Oper}{s:S}(hr:RcLe pr (rg.f c) rc)(hd: ∀t,o.dst=some t->t<512)(hi:Inv loc D m fr e' e)(hf:(Iq P pr rg loc D m k all o).f c fr e' s= .ok v2 s2):
  ∃e1 s1,StepR rc P all o e s e1 s1/\Cont k loc fr c e1 s1 v2 s2:=by
 unfold Iq at hf;rcases IE hd hi hf with⟨h1,h2⟩|⟨h1,e1',h2,h3⟩
 .obtain⟨v,s1,h3,h4,h5⟩:=KM hr hd hi h2
  exact⟨_,s1,.inr ⟨h1,v,h3,h4,rfl⟩,h5⟩
 .exact⟨_,s,.inl ⟨h1,rfl,rfl⟩,α,id,_,_,fr,e1',rfl,h2,h3⟩
def StepR1(rc:FuncId->List V->S->RO)(P:Program)(all:List Oper)(o:Oper)(e:Env16)(s:S)(e1:Env16)(s1:S):Prop:=
 (jg all e o.guard=some false/\e1=jd e o.dst (.tu [])/\s1=s)\/(jg all e o.guard=some true/\ ∃v,v≠ .und/\Ac rc P e s o.op= .ok v s1/\e1=jd e o.dst v)
theorem Wh{op:Op}{h:HK α}{s:S}(hc:LV P loc D m op=some h)(hi:Inv loc D m fr e' e)(rc:FuncId->List V->S->RO):Ac rc P e s op=ap s (h.f fr e' s):=by
 unfold LV at hc;split at hc
 .rename_i t x l hh
  split at hc
  .rename_i gx gl gh h1 h2 h3
   cases hc;have e1:gx fr e'=qa e x:=qJ h1 hi;have e2:gl fr e'=qa e l:=qJ h2 hi;have e3:gh fr e'=qa e hh:=qJ h3 hi;show ap s (Ca P s.m t (qa e x) (qa e l) (qa e hh))=ap s (Ca P s.m t (gx fr e') (gl fr e') (gh fr e'));rw[e1,e2,e3]
  .cases hc
 .rename_i t x l hh z
  split at hc
  .rename_i gx gl gh gz h1 h2 h3 h4
   cases hc;have e1:gx fr e'=qa e x:=qJ h1 hi;have e2:gl fr e'=qa e l:=qJ h2 hi;have e3:gh fr e'=qa e hh:=qJ h3 hi;have e4:gz fr e'=qa e z:=qJ h4 hi;show ap s (C9 P t (qa e x) (qa e l) (qa e hh) (qa e z))=ap s (C9 P t (gx fr e') (gl fr e') (gh fr e') (gz fr e'));rw[e1,e2,e3,e4]
  .cases hc
 .cases hc
theorem TZ{e:Env16}{mm:qM}{op:Op}(h:isS op=false):kopS P e mm op=none:=by
 unfold isS at h;unfold kopS
 split at h
 .cases h
 .rename_i hno
  split
  .rename_i t x l hh;exact(hno t x l hh none rfl).elim
  .rename_i t x l hh z;exact(hno t x l hh (some z) rfl).elim
  .rfl
theorem Rf{k:Kont γ α}{o:Oper}{s:S}(hr:RcLe pr (rg.f c) rc)(hd: ∀t,o.dst=some t->t<512)(hi:Inv loc D m fr e' e)(hf:(JJ P pr rg loc D m k o).f c fr e' s= .ok v2 s2):
  ∃v s1,v≠ .und/\Ac rc P e s o.op= .ok v s1/\Cont k loc fr c (jd e o.dst v) s1 v2 s2:=by
 unfold JJ at hf
 cases hs:isS o.op with
 |true=>
  rw[hs]at hf
  have hf:(match(generalizing:=false) LV P loc D m o.op with
   |some ⟨h⟩=>finO loc D m k o.dst ⟨λ_ fr e s K=>roK (ap s (h fr e s)) λv s=>qF v λv=>K v s⟩
   |none=>badC).f c fr e' s= .ok v2 s2:=hf
  split at hf
  .rename_i h hc
   obtain⟨K,h1,h2⟩:=JM hd hi hf;obtain⟨v,s1,h3,h4⟩:=DZ (show roK (ap s (h fr e' s)) (λv s=>qF v λv=>K v s)= .ok v2 s2 from h1);obtain⟨h5,h6⟩:=A0 h4;exact⟨v,s1,h5,by rw[Wh hc hi rc];exact h3,h2 v s1 h5 h6⟩
  .cases hf
 |false=>
  rw[hs]at hf;obtain⟨v,s1,h1,h2,h3⟩:=KM hr hd hi hf;refine⟨v,s1,h1,?_,h3⟩;unfold Ac;rw[TZ hs];exact h2
theorem Tk{k:Kont γ α}{all:List Oper}{o:Oper}{s:S}(hr:RcLe pr (rg.f c) rc)(hd: ∀t,o.dst=some t->t<512)(hi:Inv loc D m fr e' e)(hf:(Ir P pr rg loc D m k all o).f c fr e' s= .ok v2 s2):
  ∃e1 s1,StepR1 rc P all o e s e1 s1/\Cont k loc fr c e1 s1 v2 s2:=by
 unfold Ir at hf;rcases IE hd hi hf with⟨h1,h2⟩|⟨h1,e1',h2,h3⟩
 .obtain⟨v,s1,h3,h4,h5⟩:=Rf hr hd hi h2
  exact⟨_,s1,.inr ⟨h1,v,h3,h4,rfl⟩,h5⟩
 .exact⟨_,s,.inl ⟨h1,rfl,rfl⟩,α,id,_,_,fr,e1',rfl,h2,h3⟩
theorem Xz{all r:List Oper}{o:Oper}{s s1:S}{e1:Env16}(h:StepR1 rc P all o e s e1 s1):Ad rc P all (o::r) e s=Ad rc P all r e1 s1:=by
 rcases h with⟨h1,rfl,rfl⟩|⟨h1,v,_,h2,rfl⟩
 .show @Option.rec Bool (λ_=>R) _ _ (jg all e o.guard)=_
  rw[h1];rfl
 .show @Option.rec Bool (λ_=>R) _ _ (jg all e o.guard)=_
  rw[h1];show @RO.rec (λ_=>R) _ _ _ (Ac rc P e s o.op)=_;rw[h2];rfl
def zN(e e1:Env16):Prop:= ∀t,slot e t≠ .und->slot e1 t≠ .und
theorem D3{o:Option Tmp}{v:V}(hd: ∀t,o=some t->t<512)(hv:v≠ .und):zN e (jd e o v):=by
 intro t ht
 cases o with
 |none=>exact ht
 |some d=>
  rw[jb (hd d rfl)];split
  .exact hv
  .exact ht
theorem StepR.keeps{all:List Oper}{o:Oper}{s s1:S}{e1:Env16}(h:StepR rc P all o e s e1 s1)(hd: ∀t,o.dst=some t->t<512):zN e e1/\ ∀t,o.dst=some t->slot e1 t≠ .und:=by
 have key: ∀v:V,v≠ .und->zN e (jd e o.dst v)/\ ∀t,o.dst=some t->slot (jd e o.dst v) t≠ .und:=λv hv=>⟨D3 hd hv,λt ht=>by rw[ht,jb (hd t ht),if_pos rfl];exact hv⟩
 rcases h with⟨_,rfl,rfl⟩|⟨_,v,hv,_,rfl⟩
 .exact key _ (by simp)
 .exact key v hv
theorem StepR1.keeps{all:List Oper}{o:Oper}{s s1:S}{e1:Env16}(h:StepR1 rc P all o e s e1 s1)(hd: ∀t,o.dst=some t->t<512):zN e e1/\ ∀t,o.dst=some t->slot e1 t≠ .und:=by
 have key: ∀v:V,v≠ .und->zN e (jd e o.dst v)/\ ∀t,o.dst=some t->slot (jd e o.dst v) t≠ .und:=λv hv=>⟨D3 hd hv,λt ht=>by rw[ht,jb (hd t ht),if_pos rfl];exact hv⟩
 rcases h with⟨_,rfl,rfl⟩|⟨_,v,hv,_,rfl⟩
 .exact key _ (by simp)
 .exact key v hv
theorem Iu{nrm:CK γ}{all:List Oper}(hr:RcLe pr (rg.f c) rc): ∀(l:List Oper){α:Type}{m:Mp α}{D:Nat}{fr:α}{e' e:Env16}{s:S},(∀o∈l,∀t,o.dst=some t->t<512)->Inv loc D m fr e' e->
  (C2 P pr rg loc nrm all l α m D).f c fr e' s= .ok v2 s2->
  ∃e1 s1 e1',Ad rc P all l e s= .ok .nrm e1 s1/\(∀t,Nat.testBit loc t=false->slot e1' t=slot e1 t)/\zN e e1/\(∀o∈l,∀t,o.dst=some t->slot e1 t≠ .und)/\nrm.f c e1' s1= .ok v2 s2
 |[],α,m,D,fr,e',e,s,hd,hi,hf=>by
  refine⟨e,s,e',rfl,hi.ag,λt h=>h,λo ho=>(by simp at ho),?_⟩;obtain⟨f⟩:=nrm;exact hf
 |o::l,α,m,D,fr,e',e,s,hd,hi,hf=>by
  have hf:(Ir P pr rg loc D m (λβ _ m D=>C2 P pr rg loc nrm all l β m D) all o).f c fr e' s= .ok v2 s2:=hf;obtain⟨e1,s1,h1,β,p,mb,Db,fb,eb,_,h2,h3⟩:=Tk hr (hd o q5f) hi hf;obtain⟨e2,s3,e2',g1,g2,g3,g4,g5⟩:=Iu hr l (λo ho=>hd o (q5e _ ho)) h2 h3;obtain⟨k1,k2⟩:=h1.keeps (hd o q5f);refine⟨e2,s3,e2',by rw[Xz h1];exact g1,g2,λt h=>g3 t (k1 t h),λo' ho t ht=>?_,g5⟩;rcases q5d.1 ho with rfl|ho
  .exact g3 t (k2 t ht)
  .exact g4 o' ho t ht
theorem Gx(hag: ∀t,Nat.testBit loc t=false->slot e' t=slot e t)(hdf: ∀t,Nat.testBit D t=true->slot e t≠ .und):Inv loc D ([]:Mp Unit) () e' e:=⟨hag,λt x h=>(by cases h),hdf⟩
end
end
noncomputable section
theorem DM{a b:Key}(h:keyB a b=true):a=b:=by
 unfold keyB at h;simp only[jD]at h;obtain⟨h1,h2,h3,h4⟩:=h;have e1:=D16.n_inj (q5w h1);have e2:=D16.n_inj (q5w h2);have e3:=D16.n_inj (q5w h3);have e4:=D16.n_inj (q5w h4);cases a;cases b;simp_all
theorem MC{a b:Bool}(h:R7 a b=true):a=b:=by cases a<;>cases b<;>first|rfl|cases h
theorem PX{a b:IntKind}(h:keqF a b=true):a=b:=zR (by rw[<-PW];exact h)
theorem Mz{a b:V}(h:Ii a b=true):a=b:=by
 unfold Ii at h;split at h
 .simp only[jD]at h;rw[PX h.1,q5w h.2]
 .simp only[jD]at h;rw[PX h.1,q5w h.2]
 .rw[MC h]
 .simp only[jD]at h;rw[MC h.1,q5w h.2.1,q5w h.2.2]
 .rw[q5w h]
 .simp only[jD]at h;rw[DM h.1,q5w h.2]
 .simp only[jD]at h;rw[DM h.1,q5w h.2.1,q5w h.2.2.1,q5w h.2.2.2]
 .simp only[jD]at h;rw[DM h.1,q5w h.2.1,q5w h.2.2.1,q5w h.2.2.2.1,q5w h.2.2.2.2]
 .simp only[jD]at h;rw[DM h.1,q5w h.2.1,q5w h.2.2.1,q5w h.2.2.2]
 .rw[DM h]
 .simp only[jD]at h;rw[q5w h.1,q5w h.2]
 .rfl
 .rfl
 .rw[Ed.1 h]
 .simp only[jD]at h;rw[q5w h.1,q5w h.2]
 .cases h
theorem MA: ∀{a b:List V},LR a b=true->a=b
 |[],[],_=>rfl
 |a::l,b::r,h=>by
  have h:jm (Ii a b) (LR l r)=true:=h;rw[jD]at h;rw[Mz h.1,MA h.2]
 |[],_::_,h=>by cases h
 |_::_,[],h=>by cases h
theorem YG{a b:V}(h:beqV a b=true):a=b:=by
 unfold beqV at h;split at h
 .simp only[jD]at h;rw[q5w h.1,MA h.2]
 .exact Mz h
section
variable {v2:V} {s2:S} {γ:Type} {P:Program} {pr:vH} {rg:RG γ} {loc:Nat} {c:γ} {rc:FuncId->List V->S->RO}
theorem KS{α β:Type}(f:Src α->Src β)(t:Nat): ∀m:Mp α,vq t (m.map λp=>(p.1,f p.2))=(vq t m).map f
 |[]=>rfl
 |p::r=>by
  show(bif Nat.beq p.1 t then some (f p.2)else vq t (r.map λp=>(p.1,f p.2)))=Option.map f (bif Nat.beq p.1 t then some p.2 else vq t r)
  cases Nat.beq p.1 t with
  |true=>rfl
  |false=>exact KS f t r
theorem PS{α β:Type}{D:Nat}{m:Mp α}{fr:α}{fr2:β}{e' e:Env16}(f:Src α->Src β)(hf: ∀t x,SrcOk loc fr e' e t x->SrcOk loc fr2 e' e t (f x))(hi:Inv loc D m fr e' e):Inv loc D (m.map λp=>(p.1,f p.2)) fr2 e' e:=by
 refine⟨hi.ag,λt x hx=>?_,hi.df⟩;rw[KS]at hx
 cases h:vq t m with
 |none=>rw[h]at hx;cases hx
 |some y=>
  rw[h]at hx;cases hx
  obtain⟨h1,h2⟩:=hi.mp t y h;exact⟨h1,hf t y h2⟩
theorem Nl{α:Type}{D:Nat}{m:Mp α}{fr:α}{e' e:Env16}(v:V)(hi:Inv loc D m fr e' e):Inv loc D (upM m) (⟨v,fr⟩:Fm α) e' e:=PS Src.up (λt x h=>h.up) hi
theorem q1z{α:Type}{D:Nat}{m:Mp α}{fr:α}{e' e:Env16}(s:S)(hi:Inv loc D m fr e' e):Inv loc D (m.map λp=>(p.1,p.2.us)) (⟨s,fr⟩:Fs α) e' e:=
 PS Src.us (λt x h=>by cases x<;>exact h) hi
def HsOk{α:Type}(hs:List (Option (GS α)))(fr:α)(ss:Nat->S)(i:Nat):Prop:=hs.length=i/\ ∀u g,hs[u]?=some (some g)->g.f fr=ss u
def LdOk{α:Type}(P:Program)(all:List Oper)(M:List Nat)(ld:List (LD α))(fr:α)(es:Nat->Env16)(ss:Nat->S)(i:Nat):Prop:=
 ∀d∈ld,d.i<i/\((d.sk=true/\jg all (es d.i) (qA all d.i).guard=some false)\/
  (d.sk=false/\(∀m,d.f fr m=rdO P (es d.i) m (qA all d.i).op)/\d.v fr≠ .und/\(rdO P (es d.i) (rmK (ss d.i).m (zOf P ss all M d.i)) (qA all d.i).op).res=d.v fr))
theorem N8{α:Type}{j:Nat}: ∀{ld:List (LD α)}{d:LD α},IB j ld=some d->d∈ld/\d.i=j
 |[],d,h=>by cases h
 |a::r,d,h=>by
  have h:(bif Nat.beq a.i j then some a else IB j r)=some d:=h
  cases hb:Nat.beq a.i j with
  |true=>rw[hb]at h;cases h;exact⟨by simp,q5w hb⟩
  |false=>rw[hb]at h;obtain⟨h1,h2⟩:=N8 h;exact⟨by simp[h1],h2⟩
theorem Fx{β:Type}{o:Option (Option β)}{x:β}(h:o.join=some x):o=some (some x):=by
 cases o with
 |none=>cases h
 |some o=>cases o with
  |none=>cases h
  |some y=>cases h;rfl
theorem E9{r:KR}{v:V}{z:RO}(h:agF r v z= .ok v2 s2):r.res=v/\z= .ok v2 s2:=by
 unfold agF at h;obtain⟨h1,h2⟩:=zr h;exact⟨YG h1,h2⟩
theorem Gl{α:Type}{n:Nat}{hs:List (Option (GS α))}{ld:List (LD α)}{fr:α}{s:S}: ∀{L:List (Nat×Nat)}{b:BL α}{z:RO},chkL n hs ld L=some b->b.f fr s z= .ok v2 s2->z= .ok v2 s2/\ ∀q∈L,∃d g,IB q.1 ld=some d/\hs[q.2]?=some (some g)/\
  (d.sk=true\/((d.f fr (g.f fr).m).res=d.v fr/\((q.2+1=n/\(d.f fr s.m).res=d.v fr)\/ ∃g',hs[q.2+1]?=some (some g')/\(d.f fr (g'.f fr).m).res=d.v fr)))
 |[],b,z,h,hb=>by cases h;exact⟨hb,λq hq=>by simp at hq⟩
 |p::r,b,z,h,hb=>by
  unfold chkL at h;split at h
  .rename_i i0 sk ff vv g b' h1 h2 h3
   have h2:=Fx h2
   cases hsk:sk with
   |true=>
    rw[hsk,cond_true]at h;cases h
    obtain⟨k1,k2⟩:=Gl h3 hb;refine⟨k1,λq hq=>?_⟩;rcases q5d.1 hq with rfl|hq
    .exact⟨_,⟨g⟩,h1,h2,.inl hsk⟩
    .exact k2 q hq
   |false=>
    rw[hsk,cond_false]at h
    cases hn:Nat.beq (p.2+1) n with
    |true=>
     rw[hn,cond_true]at h;cases h
     obtain⟨a1,hb⟩:=E9 hb;obtain⟨a2,hb⟩:=E9 hb;obtain⟨k1,k2⟩:=Gl h3 hb;refine⟨k1,λq hq=>?_⟩;rcases q5d.1 hq with rfl|hq
     .exact⟨_,⟨g⟩,h1,h2,.inr ⟨a1,.inl ⟨q5w hn,a2⟩⟩⟩
     .exact k2 q hq
    |false=>
     rw[hn,cond_false]at h;split at h
     .rename_i g' h4
      have h4:=Fx h4;cases h;obtain⟨a1,hb⟩:=E9 hb;obtain⟨a2,hb⟩:=E9 hb;obtain⟨k1,k2⟩:=Gl h3 hb;refine⟨k1,λq hq=>?_⟩;rcases q5d.1 hq with rfl|hq
      .exact⟨_,⟨g⟩,h1,h2,.inr ⟨a1,.inr ⟨⟨g'⟩,h4,a2⟩⟩⟩
      .exact k2 q hq
     .cases h
  .cases h
theorem GS.by_f{α β:Type}(g:GS α)(p:β->α)(fb:β):(g.by p).f fb=g.f (p fb):=by obtain⟨f⟩:=g;rfl
theorem M3{α β:Type}{hs:List (Option (GS α))}{fr:α}{ss:Nat->S}{i:Nat}(h:HsOk hs fr ss i){p:β->α}{fb:β}(hp:p fb=fr):HsOk (hs.map λh=>h.map λh=>h.by p) fb ss i:=by
 refine⟨by rw[q58];exact h.1,λu g hg=>?_⟩;rw[List.getElem?_map]at hg
 cases hu:hs[u]? with
 |none=>rw[hu]at hg;cases hg
 |some o=>
  rw[hu]at hg
  cases o with
  |none=>cases hg
  |some g0=>cases hg;rw[GS.by_f,hp];exact h.2 u g0 hu
theorem LD.by_f{α β:Type}(d:LD α)(p:β->α)(fb:β):(d.by p).i=d.i/\(d.by p).sk=d.sk/\(d.by p).f fb=d.f (p fb)/\(d.by p).v fb=d.v (p fb):=by obtain⟨a,b,c,e⟩:=d;exact⟨rfl,rfl,rfl,rfl⟩
theorem M8{α β:Type}{all:List Oper}{M:List Nat}{ld:List (LD α)}{fr:α}{es:Nat->Env16}{ss:Nat->S}{i:Nat}(h:LdOk P all M ld fr es ss i){p:β->α}{fb:β}(hp:p fb=fr):LdOk P all M (ld.map λh=>h.by p) fb es ss i:=by
 intro d hd;obtain⟨d0,h0,rfl⟩:=List.mem_map.1 hd;obtain⟨e1,e2,e3,e4⟩:=LD.by_f d0 p fb;rw[e1,e2,e3,e4,hp];exact h d0 h0
theorem Kz{α:Type}{hs:List (Option (GS α))}{fr:α}{ss:Nat->S}{i:Nat}(h:HsOk hs fr ss i): ∀{us:List Nat}{z:ZL α},zGet hs us=some z->z.f fr=us.map λu=>(ss u).nx
 |[],z,hz=>by cases hz;rfl
 |u::us,z,hz=>by
  unfold zGet at hz;split at hz
  .rename_i g l h1 h2
   cases hz;show(g fr).nx::l fr=_;have e1:g fr=ss u:=h.2 u ⟨g⟩ (Fx h1);have e2:l fr=_:=Kz h h2;rw[e1,e2];rfl
  .cases hz
def ext{β:Type}(f:Nat->β)(i:Nat)(b:β):Nat->β:=λj=>if j<=i then f j else b
theorem zC{β:Type}{f:Nat->β}{i j:Nat}{b:β}(h:j<=i):ext f i b j=f j:=by unfold ext;rw[if_pos h]
theorem Tv{β:Type}{f:Nat->β}{i:Nat}{b:β}:ext f i b (i+1)=b:=by unfold ext;rw[if_neg (by omega)]
theorem q37{all:List Oper}{M:List Nat}{i u:Nat}(h:u∈unz P all M i):u<i:=by
 unfold unz at h
 cases hb:Nat.ble (cls P (qA all i).op) 1 with
 |true=>rw[hb]at h;simp at h
 |false=>rw[hb]at h;exact List.mem_range.1 (q5g.1 h).1
theorem H4{all:List Oper}{M:List Nat}{ss ss':Nat->S}{i:Nat}(h: ∀j,j<i->ss' j=ss j):zOf P ss' all M i=zOf P ss all M i:=by
 unfold zOf;exact List.map_congr_left λu hu=>by rw[h u (q37 hu)]
theorem TS{α:Type}{hs:List (Option (GS α))}{fr:α}{ss:Nat->S}{i:Nat}{s1:S}{hs2:List (Option (GS α))}(h:HsOk hs fr ss i)(h2:hs2=hs++[none]\/ ∃g:GS α,hs2=hs++[some g]/\g.f fr=ss i):HsOk hs2 fr (ext ss i s1) (i+1):=by
 have key: ∀o:Option (GS α),(∀g,o=some g->g.f fr=ss i)->HsOk (hs++[o]) fr (ext ss i s1) (i+1):=by
  intro o ho;refine⟨by rw[q55,h.1];rfl,λu g hg=>?_⟩;rcases q5F u i with hu|hu
  .rw[List.getElem?_append_left (by rw[h.1];exact hu)]at hg
   rw[zC (by omega)];exact h.2 u g hg
  .rw[List.getElem?_append_right (by rw[h.1];exact hu),h.1]at hg
   by_cases e:u=i
   .subst e
    simp at hg;rw[zC (q5B _)];exact ho g hg
   .have:u-i=(u-i-1)+1:=by omega
    rw[this]at hg;simp at hg
 rcases h2 with rfl|⟨g,rfl,hg⟩
 .exact key none λg hg=>by cases hg
 .exact key (some g) λg' hg'=>by cases hg';exact hg
theorem Fz{α:Type}{all:List Oper}{M:List Nat}{ld:List (LD α)}{fr:α}{es:Nat->Env16}{ss:Nat->S}{i:Nat}{e1:Env16}{s1:S}(h:LdOk P all M ld fr es ss i):LdOk P all M ld fr (ext es i e1) (ext ss i s1) (i+1):=by
 intro d hd;obtain⟨h1,h5⟩:=h d hd;refine⟨by omega,?_⟩;rw[zC (by omega),zC (by omega),H4 (λj hj=>zC (by omega))];exact h5
def q3N(P:Program)(all:List Oper)(M:List Nat)(es:Nat->Env16)(ss:Nat->S):Prop:=
 ∀j u,(j,u)∈ldP P all M->jg all (es j) (qA all j).guard=some true-> ∃w,w≠ .und/\
  (rdO P (es j) (rmK (ss j).m (zOf P ss all M j)) (qA all j).op).res=w/\(rdO P (es j) (ss u).m (qA all j).op).res=w/\(rdO P (es j) (ss (u+1)).m (qA all j).op).res=w
end
end
noncomputable section
theorem GG{α:Type}{a b:N16 α}(h: ∀d,a.get d=b.get d):a=b:=by
 have h0:=h .d0;have h1:=h .d1;have h2:=h .d2;have h3:=h .d3;have h4:=h .d4;have h5:=h .d5;have h6:=h .d6;have h7:=h .d7
 have h8:=h .d8;have h9:=h .d9;have h10:=h .d10;have h11:=h .d11;have h12:=h .d12;have h13:=h .d13;have h14:=h .d14;have h15:=h .d15
 cases a;cases b
 simp only[N16.get]at*
 simp_all
theorem q1J{α:Type}{a b:M4 α}(h: ∀k,mget a k=mget b k):a=b:=
 GG λw=>GG λx=>GG λy=>GG λz=>h ⟨w,x,y,z⟩
theorem q4x(m:qM)(z:List Key):reK m (rmK m z) z=m:=by
 refine q1J λk=>?_
 rw[Ba,wX];by_cases h:k∈z
 .cases hk:mget m k with
  |none=>simp[h]
  |some b=>simp[h]
 .simp[h]
section
variable {v2:V} {s2:S} {γ:Type} {P:Program} {pr:vH} {rg:RG γ} {loc:Nat} {c:γ} {rc:FuncId->List V->S->RO}
theorem WP{g:Bool}{sz:Nat}{m:qM}{p:V}{K:V->RO}{t:TypeId}(ht:qQ P t=some (g,sz))(hs:g=false->sz=1)(h:BT g sz m p K= .ok v2 s2): ∃u ks,u≠ .und/\K u= .ok v2 s2/\jY P m t p= .val u ks:=by
 obtain⟨u,ks,h1,h2,h3⟩:=K6 (P:=P) (part:=λv' o=>AR g sz v' o K) ht (λv' o ks h=>X8 ks hs h) h;exact⟨u,ks,h1,h2,h3⟩
theorem HC{α:Type}{hs:List (Option (GS α))}{fr:α}{ss ss':Nat->S}{n:Nat}(h:HsOk hs fr ss n)(he: ∀j,j<n->ss' j=ss j):HsOk hs fr ss' n:=by
 refine⟨h.1,λu g hg=>?_⟩
 have hu:u<n:=by
  rw[<-h.1];exact(List.getElem?_eq_some_iff.1 hg).1
 rw[he u hu];exact h.2 u g hg
theorem Q2{α:Type}{all:List Oper}{M:List Nat}{ld:List (LD α)}{fr:α}{es:Nat->Env16}{ss:Nat->S}{i:Nat}{d:LD α}(h:LdOk P all M ld fr es ss (i+1))(hd:d.i<i+1/\((d.sk=true/\jg all (es d.i) (qA all d.i).guard=some false)\/
  (d.sk=false/\(∀m,d.f fr m=rdO P (es d.i) m (qA all d.i).op)/\d.v fr≠ .und/\(rdO P (es d.i) (rmK (ss d.i).m (zOf P ss all M d.i)) (qA all d.i).op).res=d.v fr))):
  LdOk P all M (d::ld) fr es ss (i+1):=by
 intro d' hd';rcases q5d.1 hd' with rfl|hd'
 .exact hd
 .exact h d' hd'
theorem q2C{α:Type}{m1:Mp α}{D:Nat}{fr:α}{e' e:Env16}{op:Op}{r:R2 α}(h:rdC P loc m1 D op=some r)(hi:Inv loc D m1 fr e' e):cls P op=2/\ ∀m,r.f (r.a fr e') (r.b fr e') m=rdO P e m op:=by
 unfold rdC at h;split at h
 .split at h
  .rename_i t x _ g hg
   cases h;have hx:g fr e'=qa e x:=qJ hg hi;refine⟨rfl,λm=>?_⟩;show jY P m t (g fr e')=jY P m t (qa e x);rw[hx]
  .cases h
 .split at h
  .rename_i t x y cm _ _ gx gy hgx hgy
   cases h;have hx:gx fr e'=qa e x:=qJ hgx hi;have hy:gy fr e'=qa e y:=qJ hgy hi;refine⟨rfl,λm=>?_⟩;show vn P m t cm (gx fr e') (gy fr e')=vn P m t cm (qa e x) (qa e y);rw[hx,hy]
  .cases h
 .cases h
theorem Vd{all:List Oper}{o:Oper}{e:Env16}{s:S}{e1:Env16}{s1:S}(h:StepR rc P all o e s e1 s1):Di rc P all [] o e s e1 s1:=by
 rcases h with h|⟨h1,v,_,h2,h3⟩
 .exact .inl h
 .exact .inr ⟨h1,v,s1,h2,h3,rfl⟩
def Ib(rc:FuncId->List V->S->RO)(P:Program)(all:List Oper)(M:List Nat)(loc:Nat)(i:Nat)(rest:CN γ)(c:γ)(es:Nat->Env16)(ss:Nat->S)(v2:V)(s2:S):Prop:=
 ∃e1 s1,∃(β:Type)(mβ:Mp β)(Dβ:Nat)(hsβ:List (Option (GS β)))(ldβ:List (LD β))(fb:β)(eb:Env16),
  Di rc P all (zOf P ss all M i) (qA all i) (es i) (ss i) e1 s1/\zN (es i) e1/\(∀t,(qA all i).dst=some t->slot e1 t≠ .und)/\Inv loc Dβ mβ fb eb e1/\HsOk hsβ fb ss (i+1)/\
  LdOk P all M ldβ fb (ext es i e1) (ext ss i s1) (i+1)/\(rest β mβ Dβ hsβ ldβ).f c fb eb s1= .ok v2 s2
theorem H8{all:List Oper}{M:List Nat}{i:Nat}{rest:CN γ}{α:Type}{m1:Mp α}{D:Nat}{hs1:List (Option (GS α))}{ld1:List (LD α)}{fr:α}{e':Env16}{es:Nat->Env16}{ss:Nat->S}
  (hr:RcLe pr (rg.f c) rc)(hd: ∀t,(qA all i).dst=some t->t<512)(hi:Inv loc D m1 fr e' (es i))(hh:HsOk hs1 fr ss (i+1))(hl:LdOk P all M ld1 fr es ss i)
  (h:(B4 P pr rg loc all M i (qA all i) rest m1 D hs1 ld1).f c fr e' (ss i)= .ok v2 s2):Ib rc P all M loc i rest c es ss v2 s2:=by
 have plain:unz P all M i=[]->(Iq P pr rg loc D m1 (λβ pr mβ Dβ=>rest β mβ Dβ (hs1.map λh=>h.map λh=>h.by pr) (ld1.map λh=>h.by pr)) all (qA all i)).f c fr e' (ss i)= .ok v2 s2->Ib rc P all M loc i rest c es ss v2 s2:=by
  intro hz h;obtain⟨e1,s1,h1,β,p,mb,Db,fb,eb,hp,h2,h3⟩:=We hr hd hi h;obtain⟨k1,k2⟩:=h1.keeps hd;refine⟨e1,s1,β,mb,Db,_,_,fb,eb,?_,k1,k2,h2,M3 hh hp,?_,h3⟩
  .have:zOf P ss all M i=[]:=by unfold zOf;rw[hz];rfl
   rw[this];exact Vd h1
  .exact M8 (Fz hl) hp
 have skip: ∀{ld2:List (LD α)}{e1':Env16},jg all (es i) (qA all i).guard=some false->Inv loc (skD D (qA all i).dst) (skM m1 (qA all i).dst) fr e1' (jd (es i) (qA all i).dst (.tu []))->
   LdOk P all M ld2 fr (ext es i (jd (es i) (qA all i).dst (.tu []))) (ext ss i (ss i)) (i+1)->(rest α (skM m1 (qA all i).dst) (skD D (qA all i).dst) hs1 ld2).f c fr e1' (ss i)= .ok v2 s2->Ib rc P all M loc i rest c es ss v2 s2:=by
  intro ld2 e1' hg hi2 hl2 h;have st:StepR rc P all (qA all i) (es i) (ss i) (jd (es i) (qA all i).dst (.tu [])) (ss i):= .inl ⟨hg,rfl,rfl⟩;obtain⟨k1,k2⟩:=st.keeps hd;exact⟨_,ss i,α,_,_,hs1,ld2,fr,e1',.inl ⟨hg,rfl,rfl⟩,k1,k2,hi2,hh,hl2,h⟩
 have special:(MX P loc all i (qA all i) rest m1 D hs1 ld1 (unz P all M i)).f c fr e' (ss i)= .ok v2 s2->Ib rc P all M loc i rest c es ss v2 s2:=by
  intro h;unfold MX at h;split at h
  .rename_i ga gb f zg hrd hzg
   obtain⟨hc2,hf⟩:=q2C hrd hi;rcases IE hd hi h with⟨hgd,h2⟩|⟨hgd,e1',h2,h3⟩
   .generalize hk:finV (γ:=γ) (α:=Fm (Fm (Fm α))) loc D (upM (upM (upM m1))) (λβ(pr:β->Fm (Fm (Fm α))) mβ Dβ=>rest β mβ Dβ (hs1.map λ(h:Option (GS α))=>h.map λ(h:GS α)=>h.by λ(x:β)=>(pr x).r.r.r) (⟨i,false,λfr m=>f (pr fr).r.r.v (pr fr).r.v m,λfr=>(pr fr).v⟩::ld1.map λ(h:LD α)=>h.by λ(x:β)=>(pr x).r.r.r)) (qA all i).dst ⟨λfr _ _ K=>K fr.v⟩=q at h2
    obtain⟨k⟩:=q;obtain⟨_,h2⟩:=A0 (show qF (ga fr e') _= .ok v2 s2 from h2);obtain⟨_,h2⟩:=A0 h2;have hze:zg fr=zOf P ss all M i:=Kz hh hzg;rw[hze]at h2;obtain⟨hu,h2⟩:=A0 h2;have hf':f (ga fr e') (gb fr e') (rmK (ss i).m (zOf P ss all M i))=rdO P (es i) (rmK (ss i).m (zOf P ss all M i)) (qA all i).op:=hf _;rw[hf']at hu h2;generalize hu0:(rdO P (es i) (rmK (ss i).m (zOf P ss all M i)) (qA all i).op).res=u at hu h2;have h3:(finV (γ:=γ) (α:=Fm (Fm (Fm α))) loc D (upM (upM (upM m1))) (λβ(pr:β->Fm (Fm (Fm α))) mβ Dβ=>rest β mβ Dβ (hs1.map λ(h:Option (GS α))=>h.map λ(h:GS α)=>h.by λ(x:β)=>(pr x).r.r.r) (⟨i,false,λfr m=>f (pr fr).r.r.v (pr fr).r.v m,λfr=>(pr fr).v⟩::ld1.map λ(h:LD α)=>h.by λ(x:β)=>(pr x).r.r.r)) (qA all i).dst ⟨λfr _ _ K=>K fr.v⟩).f c ⟨u,⟨gb fr e',⟨ga fr e',fr⟩⟩⟩ e' (ss i)= .ok v2 s2:=by rw[hk];exact h2
    obtain⟨K,h5,h6⟩:=PD hd (Nl u (Nl (gb fr e') (Nl (ga fr e') hi))) h3;obtain⟨β,p,mb,Db,fb,eb,hpf,h7,h8⟩:=h6 u hu h5;obtain⟨kk0,bb0,_,_,hsh⟩:=ET (P:=P) (e:=es i) (m:=rmK (ss i).m (zOf P ss all M i)) (op:=(qA all i).op) (by rw[hu0];exact hu);rw[hu0]at hsh
    have st:Di rc P all (zOf P ss all M i) (qA all i) (es i) (ss i) (jd (es i) (qA all i).dst u) (ss i):=by
     refine .inr ⟨hgd,u,⟨rmK (ss i).m (zOf P ss all M i),(ss i).nx,(ss i).dn,(ss i).sc⟩,?_,rfl,?_⟩
     .rw[Lq (by rw[hc2];decide),kop2 hc2]
      show ap _ (rdO P (es i) (rmK (ss i).m (zOf P ss all M i)) (qA all i).op)=_;rw[hsh];rfl
     .rw[q4x]
    refine⟨_,ss i,β,mb,Db,_,_,fb,eb,st,D3 hd hu,λt' ht'=>?_,h7,?_,?_,h8⟩
    .rw[ht',jb (hd t' ht'),if_pos rfl];exact hu
    .exact M3 (p:=λx=>(p x).r.r.r) hh (by show(p fb).r.r.r=fr;rw[hpf])
    .refine Q2 (M8 (p:=λx=>(p x).r.r.r) (Fz hl) (by show(p fb).r.r.r=fr;rw[hpf])) ⟨by show i<i+1;omega,.inr ⟨rfl,λm=>?_,?_,?_⟩⟩
     .show f (p fb).r.r.v (p fb).r.v m=rdO P (ext es i _ i) m (qA all i).op
      rw[hpf,zC (q5B _)];exact hf m
     .show(p fb).v≠ .und
      rw[hpf];exact hu
     .show(rdO P (ext es i _ i) (rmK (ext ss i _ i).m (zOf P (ext ss i _) all M i)) (qA all i).op).res=(p fb).v
      rw[zC (q5B _),zC (q5B _),H4 (λj hj=>zC (by omega)),hu0,hpf]
   .refine skip hgd h2 (Q2 (Fz hl) ⟨by show i<i+1;omega,.inl ⟨rfl,?_⟩⟩) h3
    show jg all (ext es i _ i) _=_;rw[zC (q5B _)];exact hgd
  .cases h
 unfold B4 at h
 cases hrdb:isRd (qA all i).op with
 |true=>
  rw[hrdb,cond_true]at h
  cases hz:unz P all M i with
  |nil=>
   cases hany:(ldP P all M).any (λq=>Nat.beq q.1 i)with
   |false=>rw[hz,hany]at h;exact plain hz h
   |true=>rw[hz,hany]at h;rw[hz]at special;exact special h
  |cons u us=>rw[hz]at h special;exact special h
 |false=>
  rw[hrdb,cond_false]at h
  cases hz:unz P all M i with
  |nil=>rw[hz]at h;exact plain hz h
  |cons u us=>
   rw[hz]at h;simp only at h;rw[<-hz]at h;split at h
   .rename_i hop zg hcomp hzg
    rcases IE hd hi h with⟨hgd,h2⟩|⟨hgd,e1',h2,h3⟩
    .obtain⟨K,h3,h4⟩:=JM hd hi h2
     have hze:zg fr=zOf P ss all M i:=Kz hh hzg;have h3:hop c fr e' ⟨rmK (ss i).m (zg fr),(ss i).nx,(ss i).dn,(ss i).sc⟩ (λv s2=>K v (Yo (ss i) (zg fr) s2))= .ok v2 s2:=h3;obtain⟨v,s1,hv,h5,h6⟩:=MW hr hcomp hi h3;obtain⟨β,p,mb,Db,fb,eb,hpf,h7,h8⟩:=h4 v _ hv h6;rw[hze]at h5 h8;refine⟨_,_,β,mb,Db,_,_,fb,eb,.inr ⟨hgd,v,s1,h5,rfl,rfl⟩,D3 hd hv,λt' ht'=>?_,h7,M3 hh hpf,M8 (Fz hl) hpf,h8⟩;rw[ht',jb (hd t' ht'),if_pos rfl];exact hv
    .exact skip hgd h2 (Fz hl) h3
   .cases h
theorem Re{all:List Oper}{M:List Nat}{i:Nat}{rest:CN γ}{α:Type}{m:Mp α}{D:Nat}{hs:List (Option (GS α))}{ld:List (LD α)}{fr:α}{e':Env16}{es:Nat->Env16}{ss:Nat->S}
  (hr:RcLe pr (rg.f c) rc)(hd: ∀t,(qA all i).dst=some t->t<512)(hi:Inv loc D m fr e' (es i))(hh:HsOk hs fr ss i)(hl:LdOk P all M ld fr es ss i)
  (h:(Gn P pr rg loc all M i (qA all i) rest m D hs ld).f c fr e' (ss i)= .ok v2 s2):Ib rc P all M loc i rest c es ss v2 s2:=by
 unfold Gn at h;have cg: ∀{s1:S}{j:Nat},j<i+1->ss j=ext ss i s1 j:=λhj=>(zC (by omega)).symm
 cases hn:Y4 P all M i with
 |true=>
  rw[hn,cond_true]at h;generalize hk:B4 P pr rg loc all M i (qA all i) rest (m.map λp=>(p.1,p.2.us)) D ((hs.map λh=>h.map λh=>h.by λf=>f.r)++[some ⟨λfr=>fr.s⟩]) (ld.map λh=>h.by λf=>f.r)=q at h;obtain⟨f⟩:=q;have h:(B4 P pr rg loc all M i (qA all i) rest (m.map λp=>(p.1,p.2.us)) D ((hs.map λh=>h.map λh=>h.by λf=>f.r)++[some ⟨λfr=>fr.s⟩]) (ld.map λh=>h.by λf=>f.r)).f c (⟨ss i,fr⟩:Fs α) e' (ss i)= .ok v2 s2:=by rw[hk];exact h
  refine H8 hr hd (q1z (ss i) hi) ?_ (M8 hl rfl) h;exact HC (TS (s1:=ss i) (M3 hh (p:=λf:Fs α=>f.r) (fb:=⟨ss i,fr⟩) rfl) (.inr ⟨⟨λfr=>fr.s⟩,rfl,rfl⟩)) λj hj=>cg hj
 |false=>
  rw[hn,cond_false]at h;exact H8 hr hd hi (HC (TS (s1:=ss i) hh (.inl rfl)) λj hj=>cg hj) hl h
end
end
noncomputable section
section
variable {v2:V} {s2:S} {γ:Type} {P:Program} {pr:vH} {rg:RG γ} {loc:Nat} {c:γ} {rc:FuncId->List V->S->RO}
theorem Uw{all:List Oper}{i:Nat}{o:Oper}{r:List Oper}(h:o::r=all.drop i):qA all i=o/\r=all.drop (i+1)/\i<all.length:=by
 have h1:all[i]?=some o:=by
  have:(all.drop i)[0]?=some o:=by rw[<-h];rfl
  rw[q50]at this;simpa using this
 refine⟨by unfold qA;rw[q4X,h1];rfl,?_,(List.getElem?_eq_some_iff.1 h1).1⟩;have:(all.drop i).drop 1=all.drop (i+1):=by rw[q4S]
 rw[<-this,<-h];rfl
theorem KL{nrm:CK γ}{all:List Oper}{M:List Nat}(hr:RcLe pr (rg.f c) rc)(hd: ∀o∈all,∀t,o.dst=some t->t<512):
  ∀(l:List Oper)(i:Nat),l=all.drop i->i<=all.length-> ∀{α:Type}{m:Mp α}{D:Nat}{hs:List (Option (GS α))}{ld:List (LD α)}{fr:α}{e':Env16}(es:Nat->Env16)(ss:Nat->S),
  Inv loc D m fr e' (es i)->HsOk hs fr ss i->LdOk P all M ld fr es ss i->(DD P pr rg loc nrm all M l i α m D hs ld).f c fr e' (ss i)= .ok v2 s2->
  ∃es' ss' e1',(∀j,j<=i->es' j=es j/\ss' j=ss j)/\(∀t,Nat.testBit loc t=false->slot e1' t=slot (es' all.length) t)/\zN (es i) (es' all.length)/\(∀o∈l,∀t,o.dst=some t->slot (es' all.length) t≠ .und)/\
   (∀j,i<=j->j<all.length->Di rc P all (zOf P ss' all M j) (qA all j) (es' j) (ss' j) (es' (j+1)) (ss' (j+1)))/\q3N P all M es' ss'/\nrm.f c e1' (ss' all.length)= .ok v2 s2
 |[],i,hl,hile,α,m,D,hs,ld,fr,e',es,ss,hi,hh,hld,h=>by
  have hin:i=all.length:=by
   have:=congrArg List.length hl;simp at this;omega
  subst hin;have h:(match chkL all.length hs ld (ldP P all M),nrm with|some ⟨b⟩,⟨f⟩=>(⟨λc fr e s=>b fr s (f c e s)⟩:CF γ α)|none,_=>badC).f c fr e' (ss all.length)= .ok v2 s2:=h;split at h
  .rename_i b _ hb f
   obtain⟨h1,h2⟩:=Gl hb (show b fr (ss all.length) _= .ok v2 s2 from h);refine⟨es,ss,e',λj _=>⟨rfl,rfl⟩,hi.ag,λt h=>h,λo ho=>(by simp at ho),λj h1 h2=>by omega,λj u hju hg=>?_,h1⟩;obtain⟨d,g,h3,h4,h5⟩:=h2 (j,u) hju;obtain⟨hmem,rfl⟩:=N8 h3;obtain⟨_,q4⟩:=hld d hmem;rcases q4 with⟨k1,k2⟩|⟨k1,k2,k3,k4⟩
   .rw[k2]at hg;cases hg
   .rcases h5 with h5|⟨h5,h6⟩
    .rw[k1]at h5;cases h5
    .refine⟨d.v fr,k3,k4,?_,?_⟩
     .rwa [hh.2 u g h4,k2]at h5
     .rcases h6 with⟨e3,h6⟩|⟨g',h6,h7⟩
      .simp only at e3
       rwa [<-e3,k2]at h6
      .rwa [hh.2 _ g' h6,k2]at h7
  .cases h
 |o::r,i,hl,hile,α,m,D,hs,ld,fr,e',es,ss,hi,hh,hld,h=>by
  obtain⟨ho,hr2,hlt⟩:=Uw hl
  have hmem:qA all i∈all:=by
   have:o∈all:=List.mem_of_mem_drop (i:=i) (by rw[<-hl];simp);rw[ho];exact this
  have h:(Gn P pr rg loc all M i o (DD P pr rg loc nrm all M r (i+1)) m D hs ld).f c fr e' (ss i)= .ok v2 s2:=h;rw[<-ho]at h;obtain⟨e1,s1,β,mb,Db,hsb,ldb,fb,eb,h1,h2,h3,h4,h5,h6,h7⟩:=Re hr (hd _ hmem) hi hh hld h;have x1:ext es i e1 (i+1)=e1:=Tv;have x2:ext ss i s1 (i+1)=s1:=Tv;obtain⟨es',ss',e1',g1,g2,g3,g4,g5,g6,g7⟩:=KL (nrm:=nrm) hr hd r (i+1) hr2 hlt (es:=ext es i e1) (ss:=ext ss i s1) (by rw[x1];exact h4) (HC h5 λj hj=>zC (by omega)) h6 (by rw[x2];exact h7);rw[x1]at g3;have y1: ∀j,j<=i->es' j=es j/\ss' j=ss j:=λj hj=>⟨(g1 j (by omega)).1.trans (zC hj),(g1 j (by omega)).2.trans (zC hj)⟩
  refine⟨es',ss',e1',y1,g2,λt ht=>g3 t (h2 t ht),λo' ho' t ht=>?_,λj hj1 hj2=>?_,g6,g7⟩
  .rcases q5d.1 ho' with rfl|ho'
   .exact g3 t (h3 t (by rw[ho];exact ht))
   .exact g4 o' ho' t ht
  .by_cases hj:j=i
   .subst hj
    rw[(y1 j (q5B _)).1,(y1 j (q5B _)).2,(g1 (j+1) (q5B _)).1,(g1 (j+1) (q5B _)).2,x1,x2,H4 (λk hk=>(y1 k (by omega)).2)];exact h1
   .exact g5 j (by omega) hj2
theorem Vc{all:List Oper}{z:List Key}{o:Oper}{e:Env16}{s:S}{e1 e2:Env16}{s1 s2:S}(h1:Di rc P all z o e s e1 s1)(h2:Di rc P all z o e s e2 s2):e1=e2/\s1=s2:=by
 rcases h1 with⟨g1,rfl,rfl⟩|⟨g1,v,t,r1,rfl,rfl⟩<;>rcases h2 with⟨g2,rfl,rfl⟩|⟨g2,v2,t2,r2,rfl,rfl⟩
 .exact⟨rfl,rfl⟩
 .rw[g1]at g2;cases g2
 .rw[g1]at g2;cases g2
 .rw[r1]at r2;cases r2;exact⟨rfl,rfl⟩
theorem P6{all:List Oper}{e e1 e2:Env16}{s s1 s2:S}{es es2:Nat->Env16}{ss ss2:Nat->S}(h1:DrawOk rc P all e s e1 s1 es ss)(h2:DrawOk rc P all e s e2 s2 es2 ss2):e1=e2/\s1=s2:=by
 have key: ∀i,i<=all.length-> ∀j,j<=i->es j=es2 j/\ss j=ss2 j:=by
  intro i
  induction i with
  |zero=>
   intro _ j hj;have:j=0:=by omega
   subst this;exact⟨h1.e0.trans h2.e0.symm,h1.s0.trans h2.s0.symm⟩
  |succ i ih=>
   intro hi j hj;have ih:=ih (by omega);by_cases h:j=i+1
   .subst h
    have a:=h1.step i (by omega);have b:=h2.step i (by omega);rw[(ih i (q5B _)).1,(ih i (q5B _)).2,H4 (ss:=ss2) (λk hk=>(ih k (by omega)).2)]at a;exact Vc a b
   .exact ih j (by omega)
 have:=key all.length (q5B _) all.length (q5B _);exact⟨h1.en.symm.trans (this.1.trans h2.en),h1.sn.symm.trans (this.2.trans h2.sn)⟩
theorem Wd{nrm:CK γ}{ops:List Oper}{D:Nat}{e' e:Env16}{s:S}(hr:RcLe pr (rg.f c) rc)(hd: ∀o∈ops,∀t,o.dst=some t->t<512)(hst:EZ P ops (masks 0 ops [])=true)
  (hag: ∀t,Nat.testBit loc t=false->slot e' t=slot e t)(hdf: ∀t,Nat.testBit D t=true->slot e t≠ .und)(h:(Ra P pr rg loc nrm D ops).f c e' s= .ok v2 s2):
  ∃e1 s1 e1',runD rc P ops e s= .ok .nrm e1 s1/\(∀t,Nat.testBit loc t=false->slot e1' t=slot e1 t)/\zN e e1/\(∀o∈ops,∀t,o.dst=some t->slot e1 t≠ .und)/\nrm.f c e1' s1= .ok v2 s2:=by
 have h:(match DD P pr rg loc nrm ops (masks 0 ops []) ops 0 Unit [] D [] []with|⟨f⟩=>(⟨λc e s=>tramp (f c () e s)⟩:CK γ)).f c e' s= .ok v2 s2:=h;generalize hk:DD P pr rg loc nrm ops (masks 0 ops []) ops 0 Unit [] D [] []=q at h;obtain⟨f⟩:=q;have h:(DD P pr rg loc nrm ops (masks 0 ops []) ops 0 Unit [] D [] []).f c () e' s= .ok v2 s2:=by rw[hk];exact h
 obtain⟨es,ss,e1',g1,g2,g3,g4,g5,g6,g7⟩:=KL hr hd ops 0 rfl (q5X _) (λ_=>e) (λ_=>s) (Gx hag hdf) ⟨rfl,λu g h=>by simp at h⟩ (λd hd=>by simp at hd) h;have hD:DrawOk rc P ops e s (es ops.length) (ss ops.length) es ss:=⟨(g1 0 (q5B _)).1,(g1 0 (q5B _)).2,rfl,rfl,hst,λi hi=>g5 i (q5X _) hi,g6⟩;have hex: ∃p:Env16×S,∃es ss,DrawOk rc P ops e s p.1 p.2 es ss:=⟨(es ops.length,ss ops.length),es,ss,hD⟩;refine⟨es ops.length,ss ops.length,e1',?_,g2,g3,g4,g7⟩;obtain⟨es0,ss0,hch⟩:=Classical.choose_spec hex;have hu:=P6 hch hD;unfold runD;rw[dif_pos hex,hu.1,hu.2]
theorem Wg{nrm:CK γ}{ops:List Oper}{D:Nat}{e' e:Env16}{s:S}(hr:RcLe pr (rg.f c) rc)(hd: ∀o∈ops,∀t,o.dst=some t->t<512)
  (hag: ∀t,Nat.testBit loc t=false->slot e' t=slot e t)(hdf: ∀t,Nat.testBit D t=true->slot e t≠ .und)(h:(Rg P pr rg loc nrm D ops).f c e' s= .ok v2 s2):
  ∃e1 s1 e1',Ad rc P ops ops e s= .ok .nrm e1 s1/\(∀t,Nat.testBit loc t=false->slot e1' t=slot e1 t)/\zN e e1/\(∀o∈ops,∀t,o.dst=some t->slot e1 t≠ .und)/\nrm.f c e1' s1= .ok v2 s2:=by
 have h:(match C2 P pr rg loc nrm ops ops Unit [] D with|⟨f⟩=>(⟨λc e s=>tramp (f c () e s)⟩:CK γ)).f c e' s= .ok v2 s2:=h;generalize hk:C2 P pr rg loc nrm ops ops Unit [] D=q at h;obtain⟨f⟩:=q;have h:(C2 P pr rg loc nrm ops ops Unit [] D).f c () e' s= .ok v2 s2:=by rw[hk];exact h
 exact Iu hr ops hd (Gx hag hdf) h
end
end
noncomputable section
def vx(P:Program):Code->Bool
 | .region _ ops dr=>!dr||EZ P ops.toList (masks 0 ops.toList [])
 | .seq a b=>vx P a&&vx P b
 | .cond _ a b=>vx P a&&vx P b
 | .block _ a=>vx P a
 | .loop a=>vx P a
 | .scope a=>vx P a
 |_=>true
theorem Wp{n:Nat}{o:Oper}(h:zn n o=true): ∀t,o.dst=some t->t<512:=λt ht=>by
 unfold zn at h;rw[ht]at h;simp only[q4L]at h;simpa using h.2
theorem Na{t:Nat}: ∀{l:List Oper}{D:Nat},Nat.testBit (l.foldl (λD o=>skD D o.dst) D) t=true->Nat.testBit D t=true\/ ∃o∈l,o.dst=some t
 |[],D,h=> .inl h
 |o::l,D,h=>by
  rcases Na (l:=l) h with h|⟨o',h1,h2⟩
  .have h:Nat.testBit (skD D o.dst) t=true:=h
   cases ho:o.dst with
   |none=>rw[ho]at h;exact .inl h
   |some d=>
    rw[ho]at h;have h:Nat.testBit (D|||2^d) t=true:=h;rw[Nat.testBit_or,Nat.testBit_two_pow,Bool.or_eq_true]at h;rcases h with h|h
    .exact .inl h
    .exact .inr ⟨o,by simp,by rw[ho,of_decide_eq_true h]⟩
  .exact .inr ⟨o',by simp[h1],h2⟩
def nxt{γ:Type}(nrm:CK γ)(ex:Exs γ)(ret:CK γ):X->CK γ
 | .nrm=>nrm
 | .ext i=>wB i ex
 | .ret=>ret
theorem Eu{γ:Type}(i:Nat): ∀ex:Exs γ,wB i (ex.map λp=>(p.1,p.2.lift))=(wB i ex).lift
 |[]=>rfl
 |p::r=>by
  show(bif Nat.beq p.1 i then p.2.lift else wB i (r.map λp=>(p.1,p.2.lift)))=CK.lift (bif Nat.beq p.1 i then p.2 else wB i r)
  cases Nat.beq p.1 i with
  |true=>rfl
  |false=>exact Eu i r
theorem FC{γ:Type}(x:CK γ)(ih:Env16->S->RO)(c:γ)(e:Env16)(s:S):x.lift.f ⟨ih,c⟩ e s=x.f c e s:=by obtain⟨f⟩:=x;rfl
theorem K4{γ:Type}(x:RG γ)(ih:Env16->S->RO)(c:γ):x.lift.f ⟨ih,c⟩=x.f c:=by obtain⟨f⟩:=x;rfl
section
variable {v2:V} {s2:S} {P:Program} {pr:vH} {loc:Nat} {rc:FuncId->List V->S->RO}
def FdOk(P:Program)(pr:vH)(loc:Nat)(rc:FuncId->List V->S->RO)(v2:V)(s2:S)(cd:Code):Prop:=
 ∀(γ:Type)(rg:RG γ)(D:Nat)(nrm:CK γ)(ex:Exs γ)(ret:CK γ)(c:γ)(n:Nat)(e' e:Env16)(s:S),RcLe pr (rg.f c) rc->qV n cd=true->vx P cd=true->
  (∀t,Nat.testBit loc t=false->slot e' t=slot e t)->(∀t,Nat.testBit D t=true->slot e t≠ .und)->((fden P pr loc cd).d γ rg D nrm ex ret).f c e' s= .ok v2 s2->
  ∃x e1 s1 e1',den rc P cd e s= .ok x e1 s1/\(∀t,Nat.testBit loc t=false->slot e1' t=slot e1 t)/\zN e e1/\(x= .nrm-> ∀t,Nat.testBit ((fden P pr loc cd).o D) t=true->slot e1 t≠ .und)/\(nxt nrm ex ret x).f c e1' s1= .ok v2 s2
set_option maxRecDepth 4000 in
theorem Q4{cd:Code}(hcd:FdOk P pr loc rc v2 s2 cd){γ:Type}{rg:RG γ}{D:Nat}{nrm:CK γ}{ex:Exs γ}{ret:CK γ}{c:γ}{n:Nat}(hr:RcLe pr (rg.f c) rc)(hk:qV n cd=true)(hst:vx P cd=true){f:LC γ->Env16->S->RO}
  (hf:(fden P pr loc cd).d (LC γ) rg.lift D ⟨λc e s=>tramp (c.ih e s)⟩ (ex.map λp=>(p.1,p.2.lift)) ret.lift=⟨f⟩): ∀(N:Nat)(e' e:Env16)(s:S),(∀t,Nat.testBit loc t=false->slot e' t=slot e t)->(∀t,Nat.testBit D t=true->slot e t≠ .und)->
  wW (λih e s=>f ⟨ih,c⟩ e s) N e' s= .ok v2 s2->
  ∃x e1 s1 e1',BU (den rc P cd) N e s= .ok x e1 s1/\x≠ .nrm/\(∀t,Nat.testBit loc t=false->slot e1' t=slot e1 t)/\zN e e1/\(nxt nrm ex ret x).f c e1' s1= .ok v2 s2
 |0,e',e,s,hag,hdf,h=>by cases h
 |N+1,e',e,s,hag,hdf,h=>by
  have h:f ⟨wW (λih e s=>f ⟨ih,c⟩ e s) N,c⟩ e' s= .ok v2 s2:=h;obtain⟨x,e1,s1,e1',h1,h2,h3,h4,h5⟩:=hcd (LC γ) rg.lift D _ _ _ ⟨wW (λih e s=>f ⟨ih,c⟩ e s) N,c⟩ n e' e s (by rw[K4];exact hr) hk hst hag hdf (by rw[hf];exact h);have e0:BU (den rc P cd) (N+1) e s=Mi (BU (den rc P cd) N) (den rc P cd e s):=rfl;rw[e0,h1]
  cases x with
  |nrm=>
   obtain⟨x,e3,s3,e3',g1,g2,g3,g4,g5⟩:=Q4 hcd hr hk hst hf N e1' e1 s1 h2 (λt ht=>h3 t (hdf t ht)) h5;exact⟨x,e3,s3,e3',g1,g2,g3,λt ht=>g4 t (h3 t ht),g5⟩
  |ext i=>
   refine⟨_,e1,s1,e1',rfl,by simp,h2,h3,?_⟩;have h5:(wB i (ex.map λp=>(p.1,p.2.lift))).f _ e1' s1= .ok v2 s2:=h5;rw[Eu,FC]at h5;exact h5
  |ret=>
   refine⟨_,e1,s1,e1',rfl,by simp,h2,h3,?_⟩;have h5:ret.lift.f _ e1' s1= .ok v2 s2:=h5;rw[FC]at h5;exact h5
def FdF(P:Program)(pr:vH)(loc:Nat)(rc:FuncId->List V->S->RO)(v2:V)(s2:S)(cd:Code)(g:Den)(f:Env16->S->R):Prop:=
 ∀(γ:Type)(rg:RG γ)(D:Nat)(nrm:CK γ)(ex:Exs γ)(ret:CK γ)(c:γ)(n:Nat)(e' e:Env16)(s:S),RcLe pr (rg.f c) rc->qV n cd=true->vx P cd=true->
  (∀t,Nat.testBit loc t=false->slot e' t=slot e t)->(∀t,Nat.testBit D t=true->slot e t≠ .und)->(g γ rg D nrm ex ret).f c e' s= .ok v2 s2->
  ∃x e1 s1 e1',f e s= .ok x e1 s1/\(∀t,Nat.testBit loc t=false->slot e1' t=slot e1 t)/\zN e e1/\(nxt nrm ex ret x).f c e1' s1= .ok v2 s2
def FrF(P:Program)(pr:vH)(loc:Nat)(rc:FuncId->List V->S->RO)(v2:V)(s2:S)(cd:Code):Prop:= ∀l,match(fden P pr loc cd).f l with
 |some g=> ∃f,(jV rc P cd).fr l=some f/\FdF P pr loc rc v2 s2 cd g f
 |none=>(jV rc P cd).fr l=none
theorem Zc{a b:Code}(ha:FrF P pr loc rc v2 s2 a)(hb:FrF P pr loc rc v2 s2 b)(hd:FdOk P pr loc rc v2 s2 b):FrF P pr loc rc v2 s2 (.seq a b):=λl=>by
 have ha:=ha l;have hb:=hb l;have e1:(fden P pr loc (.seq a b)).f l=(match(fden P pr loc a).f l with|some g=>some (λγ rg D nrm ex ret=>g γ rg D ((fden P pr loc b).d γ rg D nrm ex ret) ex ret)|none=>(fden P pr loc b).f l):=rfl;have e2:(jV rc P (.seq a b)).fr l=(match(jV rc P a).fr l with|some f=>some (λe s=>BZ (f e s) (jV rc P b).st)|none=>(jV rc P b).fr l):=rfl;rw[e1,e2]
 cases hga:(fden P pr loc a).f l with
 |some g=>
  rw[hga]at ha;obtain⟨f,h1,h2⟩:=ha;rw[h1];refine⟨_,rfl,λγ rg D nrm ex ret c n e' e s hr hk hst hag hdf h=>?_⟩;simp only[qV,q4L]at hk;simp only[vx,q4L]at hst;obtain⟨x,e1,s1,e1',g1,g2,g3,g5⟩:=h2 γ rg D _ ex ret c n e' e s hr hk.1 hst.1 hag hdf h;show∃x e1 s1 e1',BZ (f e s) (jV rc P b).st= .ok x e1 s1/\_;rw[g1]
  cases x with
  |nrm=>
   obtain⟨x,e3,s3,e3',k1,k2,k3,k4,k5⟩:=hd γ rg D nrm ex ret c n e1' e1 s1 hr hk.2 hst.2 g2 (λt ht=>g3 t (hdf t ht)) g5;exact⟨x,e3,s3,e3',k1,k2,λt ht=>k3 t (g3 t ht),k5⟩
  |ext i=>exact⟨_,e1,s1,e1',rfl,g2,g3,g5⟩
  |ret=>exact⟨_,e1,s1,e1',rfl,g2,g3,g5⟩
 |none=>
  rw[hga]at ha;have ha:(jV rc P a).fr l=none:=ha;rw[ha]
  show match(fden P pr loc b).f l with
   |some g=> ∃f,(jV rc P b).fr l=some f/\FdF P pr loc rc v2 s2 (.seq a b) g f
   |none=>(jV rc P b).fr l=none
  cases hgb:(fden P pr loc b).f l with
  |some g=>
   rw[hgb]at hb;obtain⟨f,h1,h2⟩:=hb;refine⟨f,h1,λγ rg D nrm ex ret c n e' e s hr hk hst hag hdf h=>?_⟩;simp only[qV,q4L]at hk;simp only[vx,q4L]at hst;exact h2 γ rg D nrm ex ret c n e' e s hr hk.2 hst.2 hag hdf h
  |none=>rw[hgb]at hb;exact hb
theorem TB(l':Nat):FrF P pr loc rc v2 s2 (.label l'):=λl=>by
 have e1:(fden P pr loc (.label l')).f l=bif Nat.beq l' l then some (λ_ _ _ nrm _ _=>nrm)else none:=rfl
 have e2:(jV rc P (.label l')).fr l=bif Nat.beq l' l then some (λe s=> .ok .nrm e s)else none:=rfl
 rw[e1,e2]
 cases Nat.beq l' l with
 |true=>exact⟨_,rfl,λγ rg D nrm ex ret c n e' e s hr hk hst hag hdf h=>⟨.nrm,e,s,e',rfl,hag,λt h=>h,h⟩⟩
 |false=>rfl
theorem N7{γ:Type}{i:Nat}(hi:1048576<=i): ∀{ex:Exs γ},noG ex=true->wB i ex=badK
 |[],_=>rfl
 |p::r,h=>by
  have h:(Nat.blt p.1 1048576&&noG r)=true:=h;rw[q4L]at h;show(bif Nat.beq p.1 i then p.2 else wB i r)=badK;have h1:=h.1;simp only[Nat.blt_eq]at h1
  cases hb:Nat.beq p.1 i with
  |true=>have:=q5w hb;omega
  |false=>exact N7 hi h.2
set_option maxRecDepth 4000 in
theorem PN{cd:Code}{γ:Type}{rg:RG γ}{D l:Nat}{nrm:CK γ}{ex:Exs γ}{ret:CK γ}{c:γ}{n:Nat}{g:Den}{f:Env16->S->R}(hg:FdF P pr loc rc v2 s2 cd g f){fr:Nat->Option (Env16->S->R)}(hfr:fr l=some f)(hno:noG ex=true)
  (hr:RcLe pr (rg.f c) rc)(hk:qV n cd=true)(hst:vx P cd=true){f1:LC γ->Env16->S->RO}(hf:g (LC γ) rg.lift D nrm.lift (exG l ex) ret.lift=⟨f1⟩): ∀(N:Nat)(x:X)(e0 e' e:Env16)(s:S),(∀t,Nat.testBit loc t=false->slot e' t=slot e t)->
  (∀t,Nat.testBit D t=true->slot e0 t≠ .und)->zN e0 e->(nxt nrm.lift (exG l ex) ret.lift x).f ⟨wW (λih e s=>f1 ⟨ih,c⟩ e s) N,c⟩ e' s= .ok v2 s2->
  ∃y e1 s1 e1',hopN fr (N+1) (.ok x e s)= .ok y e1 s1/\(∀t,Nat.testBit loc t=false->slot e1' t=slot e1 t)/\zN e0 e1/\(nxt nrm ex ret y).f c e1' s1= .ok v2 s2
 |N,.nrm,e0,e',e,s,hag,hdf,hkp,h=>by
  have h:nrm.lift.f _ e' s= .ok v2 s2:=h;rw[FC]at h;exact⟨.nrm,e,s,e',rfl,hag,hkp,h⟩
 |N,.ret,e0,e',e,s,hag,hdf,hkp,h=>by
  have h:ret.lift.f _ e' s= .ok v2 s2:=h;rw[FC]at h;exact⟨.ret,e,s,e',rfl,hag,hkp,h⟩
 |N,.ext i,e0,e',e,s,hag,hdf,hkp,h=>by
  have h:(bif Nat.beq (1048576+l) i then(⟨λc e s=>tramp (c.ih e s)⟩:CK (LC γ))else wB i (ex.map λp=>(p.1,p.2.lift))).f _ e' s= .ok v2 s2:=h;have hop: ∀N,hopN fr (N+1) (.ok (.ext i) e s)= @Bool.rec (λ_=>R) (.ok (.ext i) e s) (match fr (Nat.sub i 1048576)with|some f=>hopN fr N (f e s)|none=> .ok (.ext i) e s) (Nat.ble 1048576 i):=λ_=>rfl
  cases hb:Nat.beq (1048576+l) i with
  |true=>
   rw[hb]at h;have hi:=q5w hb;have h:wW (λih e s=>f1 ⟨ih,c⟩ e s) N e' s= .ok v2 s2:=h
   cases N with
   |zero=>cases h
   |succ N=>
    have h:f1 ⟨wW (λih e s=>f1 ⟨ih,c⟩ e s) N,c⟩ e' s= .ok v2 s2:=h;obtain⟨x2,e2,s2',e2',k1,k2,k3,k5⟩:=hg (LC γ) rg.lift D _ _ _ ⟨wW (λih e s=>f1 ⟨ih,c⟩ e s) N,c⟩ n e' e s (by rw[K4];exact hr) hk hst hag (λt ht=>hkp t (hdf t ht)) (by rw[hf];exact h);obtain⟨x3,e3,s3,e3',q1,q2,q3,q4⟩:=PN hg hfr hno hr hk hst hf N x2 e0 e2' e2 s2' k2 hdf (λt ht=>k3 t (hkp t ht)) k5;refine⟨x3,e3,s3,e3',?_,q2,q3,q4⟩;have e5:Nat.sub i 1048576=l:=by rw[<-hi];exact Nat.add_sub_cancel_left 1048576 l
    rw[hop,show Nat.ble 1048576 i=true from Nat.ble_eq_true_of_le (by omega),e5,hfr];show hopN fr (N+1) (f e s)=_;rw[k1];exact q1
  |false=>
   rw[hb]at h;have h:(wB i (ex.map λp=>(p.1,p.2.lift))).f _ e' s= .ok v2 s2:=h;rw[Eu,FC]at h;by_cases hi:1048576<=i
   .rw[N7 hi hno]at h;cases h
   .refine⟨.ext i,e,s,e',?_,hag,hkp,h⟩
    have:Nat.ble 1048576 i=false:=by
     cases h3:Nat.ble 1048576 i with
     |false=>rfl
     |true=>exact absurd (q5y h3) hi
    rw[hop,this]
theorem denS(c:Code)(e:Env16)(s:S):den rc P (.scope c) e s=hopN (jV rc P c).fr 1000001 (den rc P c e s):=KO c e s
theorem zu: ∀cd:Code,FdOk P pr loc rc v2 s2 cd/\FrF P pr loc rc v2 s2 cd
 | .skip=>⟨λγ rg D nrm ex ret c n e' e s hr hk hst hag hdf h=>⟨.nrm,e,s,e',rfl,hag,λt h=>h,λ_=>hdf,h⟩,λl=>rfl⟩
 | .region id ops dr=>⟨λγ rg D nrm ex ret c n e' e s hr hk hst hag hdf h=>(by
  have hd: ∀o∈ops.toList,∀t,o.dst=some t->t<512:=λo ho=>Wp (List.all_eq_true.1 (show ops.toList.all (zn n)=true from hk) o ho)
  have fin: ∀e1:Env16,zN e e1->(∀o∈ops.toList,∀t,o.dst=some t->slot e1 t≠ .und)-> ∀t,Nat.testBit (ops.toList.foldl (λD o=>skD D o.dst) D) t=true->slot e1 t≠ .und:=λe1 h1 h2 t ht=>by
   rcases Na ht with h|⟨o,h3,h4⟩
   .exact h1 t (hdf t h)
   .exact h2 o h3 t h4
  cases dr with
  |false=>
   have h:(Rg P pr rg loc nrm D ops.toList).f c e' s= .ok v2 s2:=h;obtain⟨e1,s1,e1',h1,h2,h3,h4,h5⟩:=Wg hr hd hag hdf h;exact⟨.nrm,e1,s1,e1',h1,h2,h3,λ_=>fin e1 h3 h4,h5⟩
  |true=>
   have h:(Ra P pr rg loc nrm D ops.toList).f c e' s= .ok v2 s2:=h;have hst:EZ P ops.toList (masks 0 ops.toList [])=true:=hst;obtain⟨e1,s1,e1',h1,h2,h3,h4,h5⟩:=Wd hr hd hst hag hdf h
   exact⟨.nrm,e1,s1,e1',h1,h2,h3,λ_=>fin e1 h3 h4,h5⟩),λl=>rfl⟩
 | .seq a b=>⟨λγ rg D nrm ex ret c n e' e s hr hk hst hag hdf h=>(by
  simp only[qV,q4L]at hk;simp only[vx,q4L]at hst;have h:((fden P pr loc a).d γ rg D ((fden P pr loc b).d γ rg ((fden P pr loc a).o D) nrm ex ret) ex ret).f c e' s= .ok v2 s2:=h;obtain⟨x,e1,s1,e1',h1,h2,h3,h4,h5⟩:=(zu a).1 γ rg D _ ex ret c n e' e s hr hk.1 hst.1 hag hdf h;have e0:den rc P (.seq a b) e s=BZ (den rc P a e s) (den rc P b):=rfl;rw[e0,h1]
  cases x with
  |nrm=>
   obtain⟨x,e3,s3,e3',g1,g2,g3,g4,g5⟩:=(zu b).1 γ rg _ nrm ex ret c n e1' e1 s1 hr hk.2 hst.2 h2 (h4 rfl) h5;exact⟨x,e3,s3,e3',g1,g2,λt ht=>g3 t (h3 t ht),g4,g5⟩
  |ext i=>exact⟨_,e1,s1,e1',rfl,h2,h3,λh=>(by cases h),h5⟩
  |ret=>exact⟨_,e1,s1,e1',rfl,h2,h3,λh=>(by cases h),h5⟩),Zc (zu a).2 (zu b).2 (zu b).1⟩
 | .cond x a b=>⟨λγ rg D nrm ex ret c n e' e s hr hk hst hag hdf h=>(by
  simp only[qV,q4L]at hk;simp only[vx,q4L]at hst
  have h:(match gv (α:=Unit) loc D [] x,(fden P pr loc a).d γ rg D nrm ex ret,(fden P pr loc b).d γ rg D nrm ex ret with
   |some ⟨g⟩,⟨fa⟩,⟨fb⟩=>(⟨λc e s=>qB (g () e) λb=> @Bool.rec (λ_=>RO) (fb c e s) (fa c e s) b⟩:CK γ)
   |none,_,_=>badK).f c e' s= .ok v2 s2:=h
  split at h
  .rename_i _ _ _ g fa fb hg hfa hfb
   obtain⟨t,h1,h2⟩:=S9 (show qB (g () e') _= .ok v2 s2 from h);have hx:g () e'=qa e x:=qJ hg (Gx hag hdf);rw[hx]at h1;have e0:den rc P (.cond x a b) e s=LW (qa e x) (den rc P a) (den rc P b) e s:=rfl;rw[e0,h1]
   cases t with
   |true=>
    obtain⟨x,e1,s1,e1',h1,h2,h3,h4,h5⟩:=(zu a).1 γ rg D nrm ex ret c n e' e s hr hk.1 hst.1 hag hdf (by rw[hfa];exact h2);exact⟨x,e1,s1,e1',h1,h2,h3,λ_ t ht=>h3 t (hdf t ht),h5⟩
   |false=>
    obtain⟨x,e1,s1,e1',h1,h2,h3,h4,h5⟩:=(zu b).1 γ rg D nrm ex ret c n e' e s hr hk.2 hst.2 hag hdf (by rw[hfb];exact h2);exact⟨x,e1,s1,e1',h1,h2,h3,λ_ t ht=>h3 t (hdf t ht),h5⟩
  .cases h),λl=>rfl⟩
 | .block id a=>⟨λγ rg D nrm ex ret c n e' e s hr hk hst hag hdf h=>(by
  have hk:(Nat.blt id 1048576&&qV n a)=true:=hk;have hk:qV n a=true:=by rw[q4L]at hk;exact hk.2
  have hst:vx P a=true:=hst;have h:((fden P pr loc a).d γ rg D nrm ((id,nrm)::ex) ret).f c e' s= .ok v2 s2:=h;obtain⟨x,e1,s1,e1',h1,h2,h3,h4,h5⟩:=(zu a).1 γ rg D nrm _ ret c n e' e s hr hk hst hag hdf h;have e0:den rc P (.block id a) e s=Ik id (den rc P a e s):=rfl;rw[e0,h1];have hD: ∀t,Nat.testBit D t=true->slot e1 t≠ .und:=λt ht=>h3 t (hdf t ht)
  cases x with
  |nrm=>exact⟨.nrm,e1,s1,e1',rfl,h2,h3,λ_=>hD,h5⟩
  |ret=>exact⟨.ret,e1,s1,e1',rfl,h2,h3,λ_=>hD,h5⟩
  |ext i=>
   have h5:(bif Nat.beq id i then nrm else wB i ex).f c e1' s1= .ok v2 s2:=h5;show∃x e2 s2' e1'_1,@Bool.rec (λ_=>R) (.ok (.ext i) e1 s1) (.ok .nrm e1 s1) (Nat.beq i id)= .ok x e2 s2'/\_
   cases hb:Nat.beq i id with
   |true=>
    have:=q5w hb;subst this;rw[hb]at h5;exact⟨.nrm,e1,s1,e1',rfl,h2,h3,λ_=>hD,h5⟩
   |false=>
    have hb2:Nat.beq id i=false:=by
     cases h:Nat.beq id i with
     |false=>rfl
     |true=>rw[q5w h]at hb;simp at hb
    rw[hb2]at h5
    exact⟨.ext i,e1,s1,e1',rfl,h2,h3,λ_=>hD,h5⟩),λl=>rfl⟩
 | .loop a=>⟨λγ rg D nrm ex ret c n e' e s hr hk hst hag hdf h=>(by
  have hk:qV n a=true:=hk;have hst:vx P a=true:=hst
  have h:(match(fden P pr loc a).d (LC γ) rg.lift D ⟨λc e s=>tramp (c.ih e s)⟩ (ex.map λ(p:Nat×CK γ)=>(p.1,p.2.lift)) ret.lift with
   |⟨f⟩=>(⟨λc e s=>wW (λih e s=>f ⟨ih,c⟩ e s) 1000000 e s⟩:CK γ)).f c e' s= .ok v2 s2:=h
  generalize hf:(fden P pr loc a).d (LC γ) rg.lift D ⟨λc e s=>tramp (c.ih e s)⟩ (ex.map λ(p:Nat×CK γ)=>(p.1,p.2.lift)) ret.lift=q at h;obtain⟨f⟩:=q;have h:wW (λih e s=>f ⟨ih,c⟩ e s) 1000000 e' s= .ok v2 s2:=h;obtain⟨x,e1,s1,e1',h1,h2,h3,h4,h5⟩:=Q4 (nrm:=nrm) (zu a).1 hr hk hst hf 1000000 e' e s hag hdf h
  exact⟨x,e1,s1,e1',by rw[N1];exact h1,h3,h4,λh=>absurd h h2,h5⟩),λl=>rfl⟩
 | .exit id=>⟨λγ rg D nrm ex ret c n e' e s hr hk hst hag hdf h=>⟨.ext id,e,s,e',rfl,hag,λt h=>h,λ_=>hdf,h⟩,λl=>rfl⟩
 | .label l=>⟨λγ rg D nrm ex ret c n e' e s hr hk hst hag hdf h=>⟨.nrm,e,s,e',rfl,hag,λt h=>h,λ_=>hdf,h⟩,TB l⟩
 | .rangeFunc .. =>⟨λγ rg D nrm ex ret c n e' e s hr hk hst hag hdf h=>(by cases h),λl=>rfl⟩
 | .goto l=>⟨λγ rg D nrm ex ret c n e' e s hr hk hst hag hdf h=>⟨.ext (1048576+l),e,s,e',rfl,hag,λt h=>h,λ_=>hdf,h⟩,λl=>rfl⟩
 | .scope a=>⟨λγ rg D nrm ex ret c n e' e s hr hk hst hag hdf h=>(by
  have hk:qV n a=true:=hk;have hst:vx P a=true:=hst
  have h:(match(generalizing:=false) labC a with
   |some l=>(match(generalizing:=false) (fden P pr loc a).f l with
    |some g=>scK (noG ex) ((fden P pr loc a).d (LC γ) rg.lift D nrm.lift (exG l ex) ret.lift) (g (LC γ) rg.lift D nrm.lift (exG l ex) ret.lift)
    |none=>badK)
   |none=>badK).f c e' s= .ok v2 s2:=h
  split at h
  .rename_i l _
   have hfl:=(zu a).2 l;split at h
   .rename_i g hg
    rw[hg]at hfl;obtain⟨f,h1,h2⟩:=hfl
    cases hno:noG ex with
    |false=>rw[hno]at h;cases h
    |true=>
     rw[hno]at h;generalize hf0:(fden P pr loc a).d (LC γ) rg.lift D nrm.lift (exG l ex) ret.lift=q0 at h;generalize hf1:g (LC γ) rg.lift D nrm.lift (exG l ex) ret.lift=q1 at h;obtain⟨f0⟩:=q0;obtain⟨f1⟩:=q1;have h:f0 ⟨wW (λih e s=>f1 ⟨ih,c⟩ e s) 1000000,c⟩ e' s= .ok v2 s2:=h;obtain⟨x,e1,s1,e1',g1,g2,g3,g4,g5⟩:=(zu a).1 (LC γ) rg.lift D _ _ _ ⟨wW (λih e s=>f1 ⟨ih,c⟩ e s) 1000000,c⟩ n e' e s (by rw[K4];exact hr) hk hst hag hdf (by rw[hf0];exact h);obtain⟨y,e2,s2',e2',k1,k2,k3,k4⟩:=PN h2 h1 hno hr hk hst hf1 1000000 x e e1' e1 s1 g2 hdf g3 g5;refine⟨y,e2,s2',e2',?_,k2,k3,λ_ t ht=>k3 t (hdf t ht),k4⟩;rw[denS,g1];exact k1
   .cases h
  .cases h),λl=>rfl⟩
 | .refuse _=>⟨λγ rg D nrm ex ret c n e' e s hr hk hst hag hdf h=>(by cases h),λl=>rfl⟩
 | .ret=>⟨λγ rg D nrm ex ret c n e' e s hr hk hst hag hdf h=>⟨.ret,e,s,e',rfl,hag,λt h=>h,λ_=>hdf,h⟩,λl=>rfl⟩
theorem Z8(cd:Code):FdOk P pr loc rc v2 s2 cd:=(zu cd).1
end
end
noncomputable section
section
variable {v2:V} {s2:S} {P:Program} {pr:vH} {loc:Nat} {rc:FuncId->List V->S->RO}
theorem Qu{r:ResultVar}{g:RV}{e' e:Env16}{s:S}{K:V->RO}(hc:resC P loc r=some g)(hag: ∀t,Nat.testBit loc t=false->slot e' t=slot e t)(h:g.f e' s K= .ok v2 s2):isC (vo P e s.m r)=true/\K (vo P e s.m r)= .ok v2 s2:=by
 have hi:Inv loc 0 ([]:Mp Unit) () e' e:=Gx hag (λt h=>by simp at h)
 cases r with
 |tmp t=>
  unfold resC at hc;simp only at hc;split at hc
  .rename_i gg hg
   cases hc;have hx:gg () e'=slot e t:=qJ hg hi;have h:=Sa (show qK (gg () e') K= .ok v2 s2 from h);rw[hx]at h;exact h
  .cases hc
 |cell a t=>
  unfold resC at hc;simp only at hc;split at hc
  .rename_i gg g0 sz hg hs
   cases hb:(g0||Nat.beq sz 1)with
   |false=>rw[hb]at hc;cases hc
   |true=>
    rw[hb]at hc;cases hc;have hx:gg () e'=slot e a:=qJ hg hi;have hsz:g0=false->sz=1:=λh=>by rw[h,Bool.false_or]at hb;exact q5w hb
    obtain⟨u,ks,h1,h2,h3⟩:=WP (P:=P) hs hsz (show BT g0 sz s.m (gg () e') (λv=>qK v K)= .ok v2 s2 from h);rw[hx]at h3;have h4:=Sa h2;show isC (jY P s.m t (slot e a)).res=true/\K (jY P s.m t (slot e a)).res=_;rw[h3];exact h4
  .cases hc
theorem Qv{e' e:Env16}{s:S}(hag: ∀t,Nat.testBit loc t=false->slot e' t=slot e t): ∀{l:List ResultVar}{g:RL}{K:List V->RO},resL P loc l=some g->g.f e' s K= .ok v2 s2->(l.map (vo P e s.m)).all isC=true/\K (l.map (vo P e s.m))= .ok v2 s2
 |[],g,K,hc,h=>by cases hc;exact⟨rfl,h⟩
 |r::l,g,K,hc,h=>by
  unfold resL at hc;split at hc
  .rename_i g1 g2 h1 h2
   cases hc;obtain⟨k1,k2⟩:=Qu h1 hag (show g1 e' s _= .ok v2 s2 from h);obtain⟨k3,k4⟩:=Qv hag h2 (show g2 e' s _= .ok v2 s2 from k2);exact⟨by rw[q5b,List.all_cons,k1,k3];rfl,k4⟩
  .cases hc
theorem q0d{γ:Type}{c:γ}{l:List ResultVar}{e' e:Env16}{s:S}(hag: ∀t,Nat.testBit loc t=false->slot e' t=slot e t)(h:(retC P loc l).f c e' s= .ok v2 s2):v2≠ .und/\retA s (l.map (vo P e s.m))= .ok v2 s2:=by
 have many: ∀l:List ResultVar,l.length≠1->(match resL P loc l with|some ⟨g⟩=>(⟨λ_ e s=>g e s λl=> .ok (.tu l) s⟩:CK γ)|none=>badK).f c e' s= .ok v2 s2->v2≠ .und/\retA s (l.map (vo P e s.m))= .ok v2 s2:=by
  intro l hl h;split at h
  .rename_i g hg
   obtain⟨k1,k2⟩:=Qv hag hg (show g e' s _= .ok v2 s2 from h);have k2:RO.ok (.tu (l.map (vo P e s.m))) s= .ok v2 s2:=k2;injection k2 with a b
   subst a;subst b
   refine⟨by simp,?_⟩;unfold retA;rw[k1];show retL s (l.map (vo P e s.m))=_;unfold retL;split
   .rename_i v hv
    have:=congrArg List.length hv;rw[q58]at this;exact absurd this hl
   .rfl
  .cases h
 match l,h with
 |[],h=>exact many [] (by simp) h
 |[r],h=>
  have h:(match resC P loc r with|some ⟨g⟩=>(⟨λ_ e s=>g e s λv=> .ok v s⟩:CK γ)|none=>badK).f c e' s= .ok v2 s2:=h;split at h
  .rename_i g hg
   obtain⟨k1,k2⟩:=Qu hg hag (show g e' s _= .ok v2 s2 from h);have k2:RO.ok (vo P e s.m r) s= .ok v2 s2:=k2;injection k2 with a b
   subst a;subst b
   refine⟨λe2=>(by rw[e2]at k1;cases k1),?_⟩;unfold retA;show @Bool.rec (λ_=>RO) _ _ (isC (vo P e s.m r)&&true)=_;rw[k1];rfl
  .cases h
 |a::b::r,h=>exact many (a::b::r) (by simp) h
theorem O9{w:Row}{n:Nat}(h:n<=16):(rowL w n).length=n:=by
 unfold rowL;rw[q5a];show min n 16=n;omega
theorem q1j{tb:FuncId->Nat}(Hst: ∀(f:FuncId) fn c,P.funcs[f]?=some fn->fn.body=some c->vx P c=true){n:Nat}{ih:Rc}(hr:RcLe pr ih.call (Eh P pr n)){f:FuncId}{w:Row}{k:Nat}{s s':S}{v:V}(h:(fnC P pr tb f).g ih w k s= .ok v s'):
  k<=16/\((jz (rowL w k)).c0=w->(∀x∈rowL w k,x≠ .und)->v≠ .und/\Eh P pr (n+1) f (rowL w k) s= .ok v s'):=by
 have e0: ∀vs s,Eh P pr (n+1) f vs s=(match pr f with
   |some g=>addT f (g vs s)
   |none=>(match P.funcs[f]? with
    |some fn=>(match fn.body with
     |some c=> @Bool.rec (λ_=>RO) (.no [17]) (addT f (retR P fn.results.toList (den (Eh P pr n) P c (jz vs) s))) (qV fn.ntmps c&&Nat.ble vs.length 16&&Nat.ble vs.length fn.ntmps&&BF fn)
     |none=> .no [15])
    |none=> .no [16])):=λ_ _=>rfl
 rw[e0];unfold fnC at h;split at h
 .rename_i g hg
  obtain⟨h1,h2⟩:=zr (show @Bool.rec (λ_=>RO) (.no [17]) (roK (g (rowL w k) s) λv s=>qF v λv=> .ok v s) (Nat.ble k 16)= .ok v s' from h);obtain⟨v1,s1,h3,h4⟩:=DZ h2;obtain⟨h5,h6⟩:=A0 h4;cases h6;refine⟨q5y h1,λ_ _=>⟨h5,?_⟩⟩;rw[hg];show addT f (g (rowL w k) s)=_;rw[h3];rfl
 .rename_i hpr
  rw[hpr];simp only;split at h
  .rename_i fn hfn
   split at h
   .rename_i c hc
    cases hk:(qV fn.ntmps c&&BF fn)with
    |false=>rw[hk]at h;cases h
    |true=>
     rw[hk,cond_true]at h;simp only[q4L]at hk
     have h:(match(fden P pr (tb f) c).d Rc LQ (2^fn.params.size-1) (retC P (tb f) fn.results.toList) [] (retC P (tb f) fn.results.toList)with
      |⟨run⟩=>(⟨λrc w n s=> @Bool.rec (λ_=>RO) (.no [17]) (run rc ⟨⟨w,qH,qH,qH,qH,qH,qH,qH,qH,qH,qH,qH,qH,qH,qH,qH⟩,hiU⟩ s) (jm (Nat.ble n (Nat.min 16 fn.ntmps)) (Nat.ble fn.params.size n))⟩:FnC)).g ih w k s= .ok v s':=h
     generalize hrun:(fden P pr (tb f) c).d Rc LQ (2^fn.params.size-1) (retC P (tb f) fn.results.toList) [] (retC P (tb f) fn.results.toList)=q at h;obtain⟨run⟩:=q;obtain⟨h1,h2⟩:=zr (show @Bool.rec (λ_=>RO) (.no [17]) (run ih ⟨⟨w,qH,qH,qH,qH,qH,qH,qH,qH,qH,qH,qH,qH,qH,qH,qH⟩,hiU⟩ s) (jm (Nat.ble k (Nat.min 16 fn.ntmps)) (Nat.ble fn.params.size k))= .ok v s' from h);rw[jD]at h1;have hk16:k<=Nat.min 16 fn.ntmps:=q5y h1.1;have hp:fn.params.size<=k:=q5y h1.2;have k16:k<=16:=q5C hk16 (Nat.min_le_left _ _);have knt:k<=fn.ntmps:=q5C hk16 (Nat.min_le_right _ _);refine⟨k16,λhw hvs=>?_⟩
     have hE:(⟨⟨w,qH,qH,qH,qH,qH,qH,qH,qH,qH,qH,qH,qH,qH,qH,qH⟩,hiU⟩:Env16)=jz (rowL w k):=by
      have:jz (rowL w k)=⟨⟨(jz (rowL w k)).c0,qH,qH,qH,qH,qH,qH,qH,qH,qH,qH,qH,qH,qH,qH,qH⟩,hiU⟩:=rfl;rw[this,hw]
     rw[hE]at h2
     have hdf: ∀t,Nat.testBit (2^fn.params.size-1) t=true->slot (jz (rowL w k)) t≠ .und:=λt ht=>by
      rw[Nat.testBit_two_pow_sub_one]at ht;have ht:=of_decide_eq_true ht;have hlen:=O9 (w:=w) k16;rw[EY,if_pos (by omega)];have hlt:t<(rowL w k).length:=by omega
      rw[HN (q51 hlt)];exact hvs _ (List.getElem_mem hlt)
     obtain⟨x,e1,s1,e1',g1,g2,g3,g4,g5⟩:=Z8 (v2:=v) (s2:=s') c Rc LQ (2^fn.params.size-1) _ [] _ ih fn.ntmps _ (jz (rowL w k)) s hr hk.1 (Hst f fn c hfn hc) (λt _=>rfl) hdf (by rw[hrun];exact h2)
     have hret: ∀y:X,y= .nrm\/y= .ret->(retC P (tb f) fn.results.toList).f ih e1' s1= .ok v s'->v≠ .und/\retR P fn.results.toList (.ok y e1 s1)= .ok v s':=λy hy h=>by
      obtain⟨k1,k2⟩:=q0d g2 h;refine⟨k1,?_⟩;rcases hy with rfl|rfl<;>exact k2
     have hfin:v≠ .und/\retR P fn.results.toList (.ok x e1 s1)= .ok v s':=by
      cases x with
      |nrm=>exact hret _ (.inl rfl) g5
      |ret=>exact hret _ (.inr rfl) g5
      |ext i=>cases g5
     refine⟨hfin.1,?_⟩;rw[hfn];simp only;rw[hc];simp only;rw[O9 k16,hk.1,hk.2,Nat.ble_eq_true_of_le k16,Nat.ble_eq_true_of_le knt,g1];show addT f (retR P fn.results.toList (.ok x e1 s1))=_;rw[hfin.2];rfl
   .cases h
  .cases h
theorem MK{tb:FuncId->Nat}(Hst: ∀(f:FuncId) fn c,P.funcs[f]?=some fn->fn.body=some c->vx P c=true): ∀n,RcLe pr (CT P pr tb n).call (Eh P pr (n+1))
 |0=>⟨λf w k s v s' h=>(by cases h),λf g hg vs s v s' h=>by
   show(match pr f with|some g=>addT f (g vs s)|none=>_)=_
   rw[hg];simp only;rw[h];rfl⟩
 |n+1=>⟨λf w k s v s' h=>q1j Hst (MK Hst n) h,λf g hg vs s v s' h=>by
   show(match pr f with|some g=>addT f (g vs s)|none=>_)=_
   rw[hg];simp only;rw[h];rfl⟩
theorem ML{D:List Int}{tb:FuncId->Nat}(Hst: ∀(f:FuncId) fn c,P.funcs[f]?=some fn->fn.body=some c->vx P c=true)(hp:Mn D P pr)(hm:P.follows .mixedOrders=true){n:Nat}{f:FuncId}{vs:List V}{s s':S}{v:V}
  (h:(CT P pr tb n).call f (jz vs).c0 vs.length s= .ok v s')(hvs: ∀x∈vs,x.ok/\x≠ .und)(hs:SOK D s):CallOk D P f vs s v s':=by
 obtain⟨h1,h2⟩:=(MK (pr:=pr) (tb:=tb) Hst n).code _ _ _ _ _ _ h;rw[HV h1]at h2;obtain⟨_,h4⟩:=h2 rfl λx hx=>(hvs x hx).2
 exact MJ hp hm (n+1) f vs s v s' h4 hvs hs
end
end
noncomputable section
section
variable {D:List Int} {P:Program}
theorem wN{f:FuncId}{vs:List V}{v:V}{s:S}(h:Sig P f (vs.map (qc D)) (qc D v))(hs:SOK D s)(hv:v.ok)(hne:v≠ .und):CallOk D P f vs s v s:=by
 refine⟨h.1,hs,q5B _,hv,hne,λk hk=> .inl hk,λus w H β hargs hM hon hdom=>?_⟩;refine Calls.mono (h.2 us w H β hargs (λp hp=>by simp at hp) (λp hp=>by simp at hp) hon) ?_
 rintro e w' ⟨u,H',β',rfl,hst,hsat,_⟩
 have hb:β'=β:=by funext k;exact hst.beta k (by simp[qu])
 subst hb;have hkeep: ∀b,b<w.heap.size->w'.heap[b]?=w.heap[b]?:=λb hb=>hst.keep b hb λk hk=>by simp[kwOf]at hk
 refine⟨u,H',β',rfl,⟨hst.os,hst.tape,hst.output,hst.size,λb hb _=>hkeep b hb,hst.hle,hst.hnew,hst.hon,λk _=>rfl,λk b hb bb c hβ=> .inr ⟨k,by rw[hb];simp,c,hβ⟩⟩,hsat,⟨λk b hb=>?_,λk b hb bb c hβ=>?_,hM.inj⟩⟩
 .exact Blk.rep_congr (hM.rep k b hb) hst.hle (λ_ _=>rfl) (λbb c hβ=>hkeep bb (hM.own k b hb bb c hβ).2)
 .obtain⟨h1,h2⟩:=hM.own k b hb bb c hβ
  refine⟨?_,q5E h2 hst.size⟩
  cases hH:H' bb with
  |none=>rfl
  |some cs=>
   rcases hst.hnew bb (by rw[hH];simp)with h3|h3
   .exact absurd h1 h3
   .omega
end
def rV(x:Rat):V:= .qq (decide (x.num<0)) x.num.natAbs x.den
theorem Sb(x:Rat):(rV x).okC:=⟨x.den_nz,x.reduced,λh=>by simp at h;omega⟩
theorem Jh{s:Bool}{n d:Nat}(h:QWF s n d): ∃x:Rat,s=decide (x.num<0)/\n=x.num.natAbs/\d=x.den:=by
 obtain⟨h1,h2,h3⟩:=h;have hd:0<d:=q5Q h1;refine⟨qw s n d,?_,?_,?_⟩
 .by_cases hn:n=0
  .subst hn
   cases s with
   |true=>exact absurd rfl (h3 rfl)
   |false=>rw[Be];rfl
  .exact(zj (q5Q hn) hd).symm
 .rw[vA hd,h2];simp
 .rw[(jL hd).2,h2];simp
theorem FK{s:Bool}{n d:Nat}(hd:0<d):mkQ s n d=rV (qw s n d):=by
 unfold mkQ;by_cases hn:n=0
 .subst hn
  rw[Be];rfl
 .rw[js hn]
  have e1:=zj (neg:=s) (q5Q hn) hd;have e2:=vA (neg:=s) (n:=n) hd;have e3:=(jL (neg:=s) (n:=n) hd).2;unfold rV;rw[e1,e2,e3];simp only
  cases hg:Nat.beq (Nat.gcd n d) 1 with
  |true=>
   have:=q5w hg;rw[this];simp
  |false=>rfl
theorem Yy(s:Bool)(a:Nat)(t:Bool)(b d:Nat)(hd:0<d):addS s a t b d=rV (mkRat (sgI s a+sgI t b) d):=by
 unfold addS
 cases hst:s==t with
 |true=>
  have:s=t:=by simpa using hst
  subst this;rw[Od];exact FK hd
 |false=>
  have hne:s≠t:=by simpa using hst
  simp only
  cases hb:Nat.ble b a with
  |true=>
   have hb:b<=a:=by simpa using hb
   rw[UW hne hb];exact FK hd
  |false=>
   have hb:a<=b:=by
    have: ¬b<=a:=bleF hb;omega
   rw[UX hne hb];exact FK hd
theorem Ki(x y:Rat)(t:Bool):qadd (decide (x.num<0)) x.num.natAbs x.den t y.num.natAbs y.den=rV (x+yQ t y):=by
 unfold qadd;show addS _ (x.num.natAbs*y.den) t (y.num.natAbs*x.den) (x.den*y.den)=_;rw[Yy _ _ _ _ _ (q5P x.den_pos y.den_pos),Id]
theorem QU(a b:Bool):xorB a b=decide (a≠b):=by cases a<;>cases b<;>rfl
theorem Qp(x y:Rat):qmul (decide (x.num<0)) x.num.natAbs x.den (decide (y.num<0)) y.num.natAbs y.den=rV (x*y):=by
 unfold qmul;show mkQ _ (x.num.natAbs*y.num.natAbs) (x.den*y.den)=_;rw[FK (q5P x.den_pos y.den_pos),QU];rw[<-DU]
theorem q1y (y : Rat) (hy : y.num.natAbs ≠ 0) : y⁻¹ = qw (decide (y.num < 0)) y.den y.num.natAbs := by
 have h0 : y.num ≠ 0 := λe => hy (by rw [e]; rfl)
 have h1 : 0 < y.num.natAbs := q5Q hy;have h2 : y ≠ 0 := λe => h0 (by rw [e]; rfl)
 have h3 : qw (decide (y.num < 0)) y.den y.num.natAbs * y = 1 := by
  conv => lhs; rhs; rw [<- vT y]
  rw [GQ];unfold qw;rw [show (1 : Rat) = mkRat 1 1 from rfl, Rat.mkRat_eq_iff (Nat.ne_of_gt (q5P h1 y.den_pos)) (by decide)];simp [sgI, q5M]
 have h4 : y * y⁻¹ = 1 := Rat.mul_inv_cancel y h2
 calc y⁻¹ = 1 * y⁻¹ := (Rat.one_mul _).symm
  _ = (qw (decide (y.num < 0)) y.den y.num.natAbs * y) * y⁻¹ := by rw [h3]
  _ = qw (decide (y.num < 0)) y.den y.num.natAbs := by rw [Rat.mul_assoc, h4, Rat.mul_one]
theorem Qo(x y:Rat)(hy:y.num.natAbs≠0):qmul (decide (x.num<0)) x.num.natAbs x.den (decide (y.num<0)) y.den y.num.natAbs=rV (x/y):=by
 unfold qmul;show mkQ _ (x.num.natAbs*y.den) (x.den*y.num.natAbs)=_;rw[FK (q5P x.den_pos (q5Q hy)),QU,Rat.div_def,q1y y hy]
 conv=>rhs;rw[<-vT x,GQ]
theorem q2r(x y:Rat):qlt (decide (x.num<0)) x.num.natAbs x.den (decide (y.num<0)) y.num.natAbs y.den=decide (x<y):=by
 have h:=Rat.lt_iff x y;have hx:=x.den_pos;have hy:=y.den_pos;generalize x.num=p at*;generalize x.den=c at*;generalize y.num=q at*;generalize y.den=d at*
 have e: ∀b:Bool,(b=true↔p*(d:Int)<q*(c:Int))->b=decide (x<y):=λb hb=>by
  cases b with
  |true=>exact(decide_eq_true (h.2 (hb.1 rfl))).symm
  |false=>exact(decide_eq_false (λhh=>by have:=hb.2 (h.1 hh);cases this)).symm
 apply e;by_cases hp:p<0
 .obtain⟨a,rfl⟩: ∃a:Nat,p= -(a:Int):=⟨p.natAbs,by omega⟩
  by_cases hq:q<0
  .obtain⟨b,rfl⟩: ∃b:Nat,q= -(b:Int):=⟨q.natAbs,by omega⟩
   simp only[hp,hq,decide_true,Int.natAbs_neg,Int.natAbs_natCast,qlt,Int.neg_mul];have e1:((a*d:Nat):Int)=(a:Int)*d:=q4O _ _;have e2:((b*c:Nat):Int)=(b:Int)*c:=q4O _ _;rw[<-e1,<-e2];show Nat.blt (b*c) (a*d)=true↔_;simp;omega
  .simp only[hp,hq,decide_true,decide_false,qlt]
   have h1: -(a:Int)*d<0:=Int.mul_neg_of_neg_of_pos hp (by omega);have h2:0<=q*(c:Int):=Int.mul_nonneg (by omega) (by omega);simp;omega
 .obtain⟨a,rfl⟩: ∃a:Nat,p=(a:Int):=⟨p.natAbs,by omega⟩
  by_cases hq:q<0
  .simp only[hp,hq,decide_true,decide_false,qlt]
   have h1:q*(c:Int)<0:=Int.mul_neg_of_neg_of_pos hq (by omega);have h2:0<=(a:Int)*d:=Int.mul_nonneg (by omega) (by omega);simp;omega
  .obtain⟨b,rfl⟩: ∃b:Nat,q=(b:Int):=⟨q.natAbs,by omega⟩
   simp only[hp,hq,decide_false,Int.natAbs_natCast,qlt];have e1:((a*d:Nat):Int)=(a:Int)*d:=q4O _ _;have e2:((b*c:Nat):Int)=(b:Int)*c:=q4O _ _;rw[<-e1,<-e2];show Nat.blt (a*d) (b*c)=true↔_;simp only[Nat.blt_eq];omega
theorem UE(x y:Rat):qeq (decide (x.num<0)) x.num.natAbs x.den (decide (y.num<0)) y.num.natAbs y.den=decide (x=y):=by
 unfold qeq;by_cases h:x=y
 .subst h;simp
 .rw[decide_eq_false h]
  cases hq:Nat.beq x.num.natAbs y.num.natAbs&&Nat.beq x.den y.den&&(decide (x.num<0)==decide (y.num<0))with
  |false=>rfl
  |true=>
   simp only[q4L]at hq;obtain⟨⟨h1,h2⟩,h3⟩:=hq;have h1:=q5w h1;have h2:=q5w h2;have h3:decide (x.num<0)=decide (y.num<0):=by simpa using h3
   exfalso;apply h;rw[<-vT x,<-vT y,h1,h2,h3]
theorem YT(x y:Rat):cmpV (decide (x.num<0)) x.num.natAbs x.den (decide (y.num<0)) y.num.natAbs y.den=ofI .i64 (cmpQ x y):=by
 unfold cmpV;rw[q2r,UE];unfold cmpQ;by_cases h1:y<x
 .rw[decide_eq_true h1,if_neg (λh=>absurd (Rat.not_lt.2 (Rat.le_of_lt h1)) (λhh=>hh h)),if_neg (λh=>by subst h;exact absurd h1 Rat.lt_irrefl)];rfl
 .rw[decide_eq_false h1]
  by_cases h2:x=y
  .subst h2;rw[decide_eq_true rfl,if_neg h1,if_pos rfl];rfl
  .rw[decide_eq_false h2,if_pos,]
   .rfl
   .rcases Rat.le_iff_lt_or_eq.1 (Rat.not_lt.1 h1)with h|h
    .exact h
    .exact absurd h h2
end
noncomputable section
section
variable {D:List Int} {P:Program}
def j0(D:List Int)(P:Program)(f:FuncId)(g:List V->S->RO):Prop:= ∀vs s v s',g vs s= .ok v s'->(∀x∈vs,x.ok/\x≠ .und)->SOK D s->CallOk D P f vs s v s'
theorem O1{L:List (Nat×Pt)}(h: ∀p∈L,j0 D P p.1 (j4 p.2)):Mn D P (prims L):=by
 intro f g hg;unfold prims at hg;split at hg
 .rename_i p hp
  cases hg
  have: ∀L:List (Nat×Pt),look L f=some p->(f,p)∈L:=by
   intro L
   induction L with
   |nil=>intro h;cases h
   |cons q r ih=>
    intro h;have h:(bif Nat.beq q.1 f then some q.2 else look r f)=some p:=h
    cases hb:Nat.beq q.1 f with
    |true=>
     rw[hb]at h;cases h
     have:=q5w hb;subst this;simp
    |false=>rw[hb]at h;exact q5e _ (ih h)
  exact h _ (this L hp)
 .cases hg
theorem Oj{a:Nat}(h:smB a=true):qR a 31:=show a<2147483648 from q5y h
theorem Kp{x:Rat}(h1:smB x.num.natAbs=true)(h2:smB x.den=true):Bnd .rat (.n 31) x:=⟨Oj h1,q5z (Oj h2)⟩
theorem Gg{x:Rat}(h:Bnd .rat (.n 31) x):Bnd .rat (.n 1099511627776) x:=⟨qr (by decide) h.1,HD (by decide) h.2⟩
theorem CR(x:Rat):(.c (.agg (ql .rat x)):AV)=qc D (rV x):=rfl
theorem rV_k(x:Rat):(rV x).ok/\rV x≠ .und:=⟨Sb x,by simp[rV]⟩
theorem DS{f:FuncId}{R:Rat->AV}{h:Bool->Nat->Nat->V}(g:Rat->V)(hs: ∀x:Rat,Bnd .rat (.n 31) x->Sig P f (argsE [.rat] x) (R x))(he: ∀x:Rat,h (decide (x.num<0)) x.num.natAbs x.den=g x)(hR: ∀x,R x=qc D (g x))(hg: ∀x,(g x).ok/\g x≠ .und):j0 D P f (one h):=by
 intro vs s v s' hv hvs hsk;unfold one at hv;split at hv
 .rename_i a n d
  have hq:QWF a n d:=(hvs (.qq a n d) (by simp)).1;obtain⟨x,rfl,rfl,rfl⟩:=Jh hq
  cases hb:(smB x.num.natAbs&&smB x.den)with
  |false=>rw[hb]at hv;cases hv
  |true=>
   rw[hb]at hv;simp only[q4L]at hb;rw[he]at hv;have hv:RO.ok (g x) s= .ok v s':=hv;injection hv with h1 h2
   subst h1;subst h2
   have:=hs x (Kp hb.1 hb.2);rw[hR]at this;exact wN (vs:=[rV x]) this hsk (hg x).1 (hg x).2
 .cases hv
theorem Cj{f:FuncId}{R:Rat->Rat->AV}{h:Bool->Nat->Nat->Bool->Nat->Nat->V}(g:Rat->Rat->V)(hs: ∀x y:Rat,Bnd .rat (.n 31) x->Bnd .rat (.n 31) y->Sig P f (argsE [.rat,.rat] (x,y)) (R x y))
  (he: ∀x y:Rat,h (decide (x.num<0)) x.num.natAbs x.den (decide (y.num<0)) y.num.natAbs y.den=g x y)(hR: ∀x y,R x y=qc D (g x y))(hg: ∀x y,(g x y).ok/\g x y≠ .und):j0 D P f (two h):=by
 intro vs s v s' hv hvs hsk;unfold two at hv;split at hv
 .rename_i a n d a' n' d'
  have hq:QWF a n d:=(hvs (.qq a n d) (by simp)).1;have hq':QWF a' n' d':=(hvs (.qq a' n' d') (by simp)).1;obtain⟨x,rfl,rfl,rfl⟩:=Jh hq;obtain⟨y,rfl,rfl,rfl⟩:=Jh hq'
  cases hb:(smB x.num.natAbs&&smB x.den&&(smB y.num.natAbs&&smB y.den))with
  |false=>rw[hb]at hv;cases hv
  |true=>
   rw[hb]at hv;simp only[q4L]at hb;rw[he]at hv;have hv:RO.ok (g x y) s= .ok v s':=hv;injection hv with h1 h2
   subst h1;subst h2
   have:=hs x y (Kp hb.1.1 hb.1.2) (Kp hb.2.1 hb.2.2);rw[hR]at this;exact wN (vs:=[rV x,rV y]) this hsk (hg x y).1 (hg x y).2
 .cases hv
theorem PP(z:Int):(ofI .i64 z).ok/\ofI .i64 z≠ .und:=by cases z<;>exact⟨trivial,by simp[ofI]⟩
theorem XR(z:Int):(.c (.one (.val (.int .i64 z))):AV)=qc D (ofI .i64 z):=by cases z<;>rfl
theorem JG(z:Int):argC (.int .i64) z=qc D (ofI .i64 z):=by cases z<;>rfl
theorem Y9{f:FuncId}(hs: ∀x y:Rat,Bnd .rat (.n 31) x->Bnd .rat (.n 31) y->Sig P f (argsE [.rat,.rat] (x,y)) (.c (.agg (ql .rat (x+y))))):j0 D P f (j4 .add):=
 Cj (h:=qadd) (λx y=>rV (x+y)) hs (λx y=>by rw[Ki,Bj]) (λx y=>CR _) λx y=>rV_k _
theorem Yg{f:FuncId}(hs: ∀x y:Rat,Bnd .rat (.n 31) x->Bnd .rat (.n 31) y->Sig P f (argsE [.rat,.rat] (x,y)) (.c (.agg (ql .rat (x-y))))):j0 D P f (j4 .sub):=
 Cj (h:=λa b c d e f=>qadd a b c (!d) e f) (λx y=>rV (x-y)) hs (λx y=>by rw[Ki,OX,Rat.sub_eq_add_neg]) (λx y=>CR _) λx y=>rV_k _
theorem Yd{f:FuncId}(hs: ∀x y:Rat,Bnd .rat (.n 31) x->Bnd .rat (.n 31) y->Sig P f (argsE [.rat,.rat] (x,y)) (.c (.agg (ql .rat (x*y))))):j0 D P f (j4 .mul):=
 Cj (h:=qmul) (λx y=>rV (x*y)) hs (λx y=>Qp x y) (λx y=>CR _) λx y=>rV_k _
theorem Ya{f:FuncId}(hs: ∀x y:Rat,Bnd .rat (.n 31) x->Bnd .rat (.n 31) y->Sig P f (argsE [.rat,.rat] (x,y)) (.c (.one (.val (.int .i64 (cmpQ x y)))))):j0 D P f (j4 .cmp):=
 Cj (h:=cmpV) (λx y=>ofI .i64 (cmpQ x y)) hs (λx y=>YT x y) (λx y=>XR _) λx y=>PP _
theorem Uz{f:FuncId}(hs: ∀x y:Rat,Bnd .rat (.n 31) x->Bnd .rat (.n 31) y->Sig P f (argsE [.rat,.rat] (x,y)) (.c (.one (.val (.bool (decide (x=y))))))):j0 D P f (j4 .same):=
 Cj (h:=λa b c d e f=> .bb (qeq a b c d e f)) (λx y=> .bb (decide (x=y))) hs (λx y=>by rw[UE]) (λx y=>rfl) λx y=>⟨trivial,by simp⟩
theorem Y5{x:Rat}(h:x.num=0):x=0:=by
 rw[<-vT x,h];exact Be _ _
theorem q44{x y:Rat}(h:y.num.natAbs=0):x/y=0:=by
 have:y=0:=by
  have:y.num=0:=by omega
  exact Y5 this
 rw[this,Rat.div_def,Rat.inv_zero,Rat.mul_zero]
theorem Yf{f:FuncId}(hs: ∀x y:Rat,Bnd .rat (.n 31) x->Bnd .rat (.n 31) y->Sig P f (argsE [.rat,.rat] (x,y)) (.tup [.agg (ql .rat (x/y)),.one (.val (.int .i64 (quoC y)))])):j0 D P f (j4 .quo):=by
 refine Cj (h:=λa b c d e f=> @Bool.rec (λ_=>V) (.tu [qmul a b c d f e,.nn .i64 0]) (.tu [.qq false 0 1,.nn .i64 3]) (Nat.beq e 0)) (λx y=> .tu [rV (x/y),ofI .i64 (quoC y)]) hs (λx y=>?_) (λx y=>?_) λx y=>⟨?_,by simp⟩
 .cases hb:Nat.beq y.num.natAbs 0 with
  |true=>
   have:=q5w hb;rw[q44 this,show quoC y=3 from if_pos this];rfl
  |false=>
   have:y.num.natAbs≠0:=λe=>by rw[e]at hb;simp at hb
   simp only;rw[Qo x y this,show quoC y=0 from if_neg this];rfl
 .unfold quoC;split<;>rfl
 .intro v hv
  simp only[q5d,q5l,or_false]at hv;rcases hv with rfl|rfl
  .exact Sb _
  .unfold quoC;split<;>exact trivial
theorem Ye{f:FuncId}(hs: ∀x:Rat,Bnd .rat (.n 31) x->Sig P f (argsE [.rat] x) (.c (.agg (ql .rat (-x))))):j0 D P f (j4 .neg):=by
 refine DS (h:=λa b c=> @Bool.rec (λ_=>V) (.qq (!a) b c) (.qq false 0 1) (Nat.beq b 0)) (λx=>rV (-x)) hs (λx=>?_) (λx=>CR _) λx=>rV_k _
 cases hb:Nat.beq x.num.natAbs 0 with
 |true=>
  have:=q5w hb;have:x=0:=Y5 (by omega);subst this;rfl
 |false=>
  have:x.num.natAbs≠0:=λe=>by rw[e]at hb;simp at hb
  unfold rV;simp only[Rat.neg_num,Rat.neg_den,Int.natAbs_neg]
  congr 1
  by_cases h:x.num<0
  .rw[decide_eq_true h,decide_eq_false (by omega)];rfl
  .rw[decide_eq_false h,decide_eq_true (by omega)];rfl
theorem UA{f:FuncId}(hs: ∀x:Rat,Bnd .rat (.n 31) x->Sig P f (argsE [.rat] x) (.c (.one (.val (.int .i64 (jp x)))))):j0 D P f (j4 .sign):=by
 refine DS (h:=λa b c=> @Bool.rec (λ_=>V) (@Bool.rec (λ_=>V) (.nn .i64 1) (.zz .i64 0) a) (.nn .i64 0) (Nat.beq b 0)) (λx=>ofI .i64 (jp x)) hs (λx=>?_) (λx=>XR _) λx=>PP _
 unfold jp
 cases hb:Nat.beq x.num.natAbs 0 with
 |true=>rw[if_pos (q5w hb)];rfl
 |false=>
  have:x.num.natAbs≠0:=λe=>by rw[e]at hb;simp at hb
  rw[if_neg this];by_cases h:x.num<0
  .rw[decide_eq_true h,if_pos h];rfl
  .rw[decide_eq_false h,if_neg h];rfl
theorem QI{n:Nat}(h:smB n=true):Bnd .mag (.n 1099511627776) n:=qr (by decide) (Oj h)
theorem q20{f:FuncId}(hs: ∀x:Nat,Bnd .mag (.n 1099511627776) x->Sig P f (argsE [.mag] x) (.c (.one (.abs (natP x))))):j0 D P f (j4 .trim):=by
 intro vs s v s' hv hvs hsk;have hv:(match vs with|[.mg n]=> @Bool.rec (λ_=>RO) (.no [35]) (.ok (.mg n) s) (smB n)|_=> .no [32])= .ok v s':=hv;split at hv
 .rename_i n _
  cases hb:smB n with
  |false=>rw[hb]at hv;cases hv
  |true=>
   rw[hb]at hv;have hv:RO.ok (.mg n) s= .ok v s':=hv;injection hv with h1 h2
   subst h1;subst h2
   exact wN (vs:=[.mg n]) (hs n (QI hb)) hsk trivial (by simp)
 .cases hv
theorem Qk{f:FuncId}(hs: ∀x u:Nat,Bnd .mag (.n 1099511627776) x->Bnd (.nat .u32) (.n 4294967295) u->0<u->Sig P f (argsE [.mag,.nat .u32] (x,u)) (.tup [.one (.abs (natP (x/u))),.one (.val (.int .u32 ((x%u:Nat):Int)))])):j0 D P f (j4 .small):=by
 intro vs s v s' hv hvs hsk;have hv:(match vs with|[.mg n,.nn .u32 u]=> @Bool.rec (λ_=>RO) (.no [33]) (.ok (.tu [.mg (Nat.div n u),.nn .u32 (Nat.mod n u)]) s) (smB n&&(Nat.blt 0 u&&Nat.blt u 4294967296))|_=> .no [34])= .ok v s':=hv;split at hv
 .rename_i n u _
  cases hb:(smB n&&(Nat.blt 0 u&&Nat.blt u 4294967296))with
  |false=>rw[hb]at hv;cases hv
  |true=>
   rw[hb]at hv;simp only[q4L]at hb;obtain⟨h1,h2,h3⟩:=hb;have h2:0<u:=q5y h2;have h3:u<4294967296:=q5y h3;have hv:RO.ok (.tu [.mg (Nat.div n u),.nn .u32 (Nat.mod n u)]) s= .ok v s':=hv;injection hv with h4 h5
   subst h4;subst h5
   refine wN (vs:=[.mg n,.nn .u32 u]) (hs n u (QI h1) (show u<=4294967295 by omega) h2) hsk ?_ (by simp);intro x hx;simp only[q5d,q5l,or_false]at hx;rcases hx with rfl|rfl<;>exact trivial
 .cases hv
theorem Yb{f:FuncId}(hs: ∀x:Rat,Bnd .rat (.n 31) x->Sig P f (argsE [.rat] x) (.c (.agg (ql .rat x)))):j0 D P f (j4 .idq):=
 DS (h:=λa b c=> .qq a b c) (λx=>rV x) hs (λx=>rfl) (λx=>CR _) λx=>rV_k _
end
end
noncomputable section
section
variable {D:List Int} {P:Program}
theorem Kj{v:V}{a:Bool}{n:Nat}(h:qint v=some (a,n)): ∃z:Int,v=ofI .i64 z/\a=decide (z<0)/\n=z.natAbs/\Bnd (.int .i64) (.n 4611686018427387904) z:=by
 unfold qint at h;split at h
 .rename_i m
  cases hb:Nat.ble m 4611686018427387904 with
  |false=>rw[hb]at h;cases h
  |true=>
   rw[hb]at h;have h:some (false,m)=some (a,n):=h;injection h with h
   injection h with h1 h2
   subst h1;subst h2
   have:=q5y hb;exact⟨(m:Int),rfl,(decide_eq_false (by omega)).symm,by simp,by show Int.natAbs (m:Int)<=_;simpa using this⟩
 .rename_i m
  cases hb:Nat.blt m 4611686018427387904 with
  |false=>rw[hb]at h;cases h
  |true=>
   rw[hb]at h;have h:some (true,m+1)=some (a,n):=h;cases h;have:m+1<=4611686018427387904:=q5y hb;exact⟨Int.negSucc m,rfl,(decide_eq_true (Int.negSucc_lt_zero m)).symm,rfl,by show Int.natAbs (Int.negSucc m)<=_;simpa using this⟩
 .cases h
theorem q2u(z:Int):rV (z:Rat)= .qq (decide (z<0)) z.natAbs 1:=by
 unfold rV;rw[Rat.num_intCast,Rat.den_intCast]
theorem q08{u v:Int}(hv:v.natAbs≠0):mkQ (xorB (decide (u<0)) (decide (v<0))) u.natAbs v.natAbs=rV ((u:Rat)/(v:Rat)):=by
 rw[<-Qo (u:Rat) (v:Rat) (by rw[Rat.num_intCast];exact hv)];rw[Rat.num_intCast,Rat.den_intCast,Rat.num_intCast,Rat.den_intCast];unfold qmul;show _=mkQ _ (u.natAbs*1) (1*v.natAbs);rw[Nat.mul_one,Nat.one_mul]
theorem Yc{f:FuncId}(hs: ∀z:Int,Bnd (.int .i64) (.n 4611686018427387904) z->Sig P f (argsE [.int .i64] z) (.c (.agg (ql .rat (z:Rat))))):j0 D P f (j4 .int):=by
 intro vs s v s' hv hvs hsk;have hv:(match vs with|[v]=>(match qint v with|some (a,n)=>RO.ok (.qq a n 1) s|none=> .no [21])|_=> .no [22])= .ok v s':=hv;split at hv
 .split at hv
  .rename_i u a n hq
   obtain⟨z,rfl,rfl,rfl,hb⟩:=Kj hq;injection hv with h1 h2
   subst h1;subst h2
   have h:=hs z hb;rw[CR (D:=D)]at h;rw[<-q2u];refine wN (vs:=[ofI .i64 z]) ?_ hsk (rV_k _).1 (rV_k _).2;show Sig P f [qc D (ofI .i64 z)] _;rw[<-JG];exact h
  .cases hv
 .cases hv
theorem q1Y{f:FuncId}(hs: ∀u v:Int,Bnd (.int .i64) (.n 4611686018427387904) u->Bnd (.int .i64) (.n 4611686018427387904) v->v≠0->Sig P f (argsE [.int .i64,.int .i64] (u,v)) (.tup [.agg (ql .rat ((u:Rat)/(v:Rat))),.one (.val (.int .i64 0))])):j0 D P f (j4 .make):=by
 intro vs s v s' hv hvs hsk;have hv:(match vs with|[u,v]=>(match qint u,qint v with|some (a,n),some (b,m)=> @Bool.rec (λ_=>RO) (.ok (.tu [mkQ (xorB a b) n m,.nn .i64 0]) s) (.no [25]) (Nat.beq m 0)|_,_=> .no [23])|_=> .no [22])= .ok v s':=hv;split at hv
 .split at hv
  .rename_i x y a n b m hq hq'
   obtain⟨z,rfl,rfl,rfl,hb⟩:=Kj hq;obtain⟨z',rfl,rfl,rfl,hb'⟩:=Kj hq'
   cases h0:Nat.beq z'.natAbs 0 with
   |true=>rw[h0]at hv;cases hv
   |false=>
    rw[h0]at hv;have hne:z'.natAbs≠0:=λe=>by rw[e]at h0;simp at h0
    rw[q08 hne]at hv;have hv:RO.ok (.tu [rV ((z:Rat)/(z':Rat)),.nn .i64 0]) s= .ok v s':=hv;injection hv with h1 h2
    subst h1;subst h2
    have h:=hs z z' hb hb' (by omega);refine wN (vs:=[ofI .i64 z,ofI .i64 z']) ?_ hsk ?_ (by simp)
    .show Sig P f [qc D (ofI .i64 z),qc D (ofI .i64 z')] _
     rw[<-JG,<-JG];exact h
    .intro x hx
     simp only[q5d,q5l,or_false]at hx;rcases hx with rfl|rfl
     .exact Sb _
     .exact trivial
  .cases hv
 .cases hv
theorem Y8{f:FuncId}(hs: ∀x:Rat,Bnd .rat (.n 31) x->Sig P f (argsE [.rat] x) (.c (.agg (ql .rat (absQ x))))):j0 D P f (j4 .abs):=by
 refine DS (h:=λa b c=> .qq false b c) (λx=>rV (absQ x)) hs (λx=>?_) (λx=>CR _) λx=>rV_k _
 unfold rV;rw[<-Hi,<-E7,JD]
end
end
noncomputable section
section
variable {D:List Int} {P:Program}
end
end
end Go.Proofs.YtamiaelfnfnegaaGreatDoor.Sx.Kx
