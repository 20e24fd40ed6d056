/-
Own laws, part 8. No condition.
-/
import Derived.Test.YtilobhkcmoldlaaGreatQ7
import Derived.Test.YtilobhkcmoldlaaGreatProg
import Derived.KernelRfl
namespace Go.Proofs.YtilobhkcmoldlaaGreat.Sx.Kx
open Go
set_option linter.unusedVariables false
set_option linter.unusedSimpArgs false
noncomputable section
section
variable {D:List Int} {P:Program}
theorem E2{v:V}{a:Bool}{n:Nat}(h:qint v=some (a,n)): ∃z:Int,v=ofI .i64 z/\a=decide (z<0)/\n=z.natAbs/\Bnd (.int .i64) (.n 4611686018427387904) z:=by
 unfold qint at h;split at h
 .rename_i m
  cases hb:Nat.ble m 4611686018427387904 with
  |false=>rw[hb]at h;cases h
  |true=>
   rw[hb]at h;have h:some (false,m)=some (a,n):=h;injection h with h
   injection h with h1 h2
   subst h1;subst h2
   have:=q6K hb;exact⟨(m:Int),rfl,(decide_eq_false (by omega)).symm,by simp,by show Int.natAbs (m:Int)<=_;simpa using this⟩
 .rename_i m
  cases hb:Nat.blt m 4611686018427387904 with
  |false=>rw[hb]at h;cases h
  |true=>
   rw[hb]at h;have h:some (true,m+1)=some (a,n):=h;cases h;have:m+1<=4611686018427387904:=q6K hb;exact⟨Int.negSucc m,rfl,(decide_eq_true (Int.negSucc_lt_zero m)).symm,rfl,by show Int.natAbs (Int.negSucc m)<=_;simpa using this⟩
 .cases h
theorem q3F(z:Int):rV (z:Rat)= .qq (decide (z<0)) z.natAbs 1:=by
 unfold rV;rw[Rat.num_intCast,Rat.den_intCast]
theorem QL{u v:Int}(hv:v.natAbs≠0):mkQ (xorB (decide (u<0)) (decide (v<0))) u.natAbs v.natAbs=rV ((u:Rat)/(v:Rat)):=by
 rw[<-QJ (u:Rat) (v:Rat) (by rw[Rat.num_intCast];exact hv)];rw[Rat.num_intCast,Rat.den_intCast,Rat.num_intCast,Rat.den_intCast];unfold qmul;show _=mkQ _ (u.natAbs*1) (1*v.natAbs);rw[Nat.mul_one,Nat.one_mul]
theorem ZR{f:FuncId}(hs: ∀z:Int,Bnd (.int .i64) (.n 4611686018427387904) z->Sig P f (argsE [.int .i64] z) (.c (.agg (qh .rat (z:Rat))))):qI D P f (qJ .int):=by
 intro vs s v s' hv hvs hsk;have hv:(match vs with|[v]=>(match qint v with|some (a,n)=>RO.ok (.qq a n 1) s|none=> .no [21])|_=> .no [22])= .ok v s':=hv;split at hv
 .split at hv
  .rename_i u a n hq
   obtain⟨z,rfl,rfl,rfl,hb⟩:=E2 hq;injection hv with h1 h2
   subst h1;subst h2
   have h:=hs z hb;rw[Bg (D:=D)]at h;rw[<-q3F];refine zI (vs:=[ofI .i64 z]) ?_ hsk (rV_k _).1 (rV_k _).2;show Sig P f [qe D (ofI .i64 z)] _;rw[<-DB];exact h
  .cases hv
 .cases hv
theorem q3b{f:FuncId}(hs: ∀u v:Int,Bnd (.int .i64) (.n 4611686018427387904) u->Bnd (.int .i64) (.n 4611686018427387904) v->v≠0->Sig P f (argsE [.int .i64,.int .i64] (u,v)) (.c (.agg (qh .rat ((u:Rat)/(v:Rat)))))):qI D P f (qJ .frac):=by
 intro vs s v s' hv hvs hsk;have hv:(match vs with|[u,v]=>(match qint u,qint v with|some (a,n),some (b,m)=> @Bool.rec (λ_=>RO) (.ok (mkQ (xorB a b) n m) s) (.no [25]) (Nat.beq m 0)|_,_=> .no [23])|_=> .no [22])= .ok v s':=hv;split at hv
 .split at hv
  .rename_i x y a n b m hq hq'
   obtain⟨z,rfl,rfl,rfl,hb⟩:=E2 hq;obtain⟨z',rfl,rfl,rfl,hb'⟩:=E2 hq'
   cases h0:Nat.beq z'.natAbs 0 with
   |true=>rw[h0]at hv;cases hv
   |false=>
    rw[h0]at hv;have hne:z'.natAbs≠0:=λe=>by rw[e]at h0;simp at h0
    rw[QL hne]at hv;have hv:RO.ok (rV ((z:Rat)/(z':Rat))) s= .ok v s':=hv;injection hv with h1 h2
    subst h1;subst h2
    have h:=hs z z' hb hb' (by omega);rw[Bg (D:=D)]at h;refine zI (vs:=[ofI .i64 z,ofI .i64 z']) ?_ hsk (rV_k _).1 (rV_k _).2;show Sig P f [qe D (ofI .i64 z),qe D (ofI .i64 z')] _;rw[<-DB,<-DB];exact h
  .cases hv
 .cases hv
theorem q3c{f:FuncId}(hs: ∀u v:Int,Bnd (.int .i64) (.n 4611686018427387904) u->Bnd (.int .i64) (.n 4611686018427387904) v->v≠0->Sig P f (argsE [.int .i64,.int .i64] (u,v)) (.tup [.agg (qh .rat ((u:Rat)/(v:Rat))),.one (.val (.int .i64 0))])):qI D P f (qJ .make):=by
 intro vs s v s' hv hvs hsk;have hv:(match vs with|[u,v]=>(match qint u,qint v with|some (a,n),some (b,m)=> @Bool.rec (λ_=>RO) (.ok (.tu [mkQ (xorB a b) n m,.nn .i64 0]) s) (.no [25]) (Nat.beq m 0)|_,_=> .no [23])|_=> .no [22])= .ok v s':=hv;split at hv
 .split at hv
  .rename_i x y a n b m hq hq'
   obtain⟨z,rfl,rfl,rfl,hb⟩:=E2 hq;obtain⟨z',rfl,rfl,rfl,hb'⟩:=E2 hq'
   cases h0:Nat.beq z'.natAbs 0 with
   |true=>rw[h0]at hv;cases hv
   |false=>
    rw[h0]at hv;have hne:z'.natAbs≠0:=λe=>by rw[e]at h0;simp at h0
    rw[QL hne]at hv;have hv:RO.ok (.tu [rV ((z:Rat)/(z':Rat)),.nn .i64 0]) s= .ok v s':=hv;injection hv with h1 h2
    subst h1;subst h2
    have h:=hs z z' hb hb' (by omega);refine zI (vs:=[ofI .i64 z,ofI .i64 z']) ?_ hsk ?_ (by simp)
    .show Sig P f [qe D (ofI .i64 z),qe D (ofI .i64 z')] _
     rw[<-DB,<-DB];exact h
    .intro x hx
     simp only[q6p,q6x,or_false]at hx;rcases hx with rfl|rfl
     .exact LX _
     .exact trivial
  .cases hv
 .cases hv
theorem ZN{f:FuncId}(hs: ∀x:Rat,Bnd .rat (.n 31) x->Sig P f (argsE [.rat] x) (.c (.agg (qh .rat (absQ x))))):qI D P f (qJ .abs):=by
 refine DY (h:=λa b c=> .qq false b c) (λx=>rV (absQ x)) hs (λx=>?_) (λx=>Bg _) λx=>rV_k _
 unfold rV;rw[<-Hj,<-Ef,Jv]
end
end
noncomputable section
section
variable {D:List Int} {P:Program}
theorem Xm {f : FuncId} {k : Key} {b b' : KB} {cs cs' : List Atom} {vs : List V} {v : V} {s s' : S} (hbk : mget s.m k = some b) (hb : b.blk D = .rigid cs) (hb' : b'.blk D = .rigid cs') (hc : ∀ n, jz n cs = false) (hc' : ∀ n, jz n cs' = false)
  (hargs : ∀ β β' H us, AVs β H (vs.map (qe D)) us -> AVs β' H (vs.map (qe D)) us) (hv : ∀ β β' H u, (qe D v).sat β H u -> (qe D v).sat β' H u) (hvok : v.ok) (hne : v ≠ .und) (hs' : SOK D s') (hm : s'.m = mset s.m k (some b')) (hnx : s'.nx = s.nx)
  (h : SigG P f (.c (.one (.loc 100000 0)) :: vs.map (qe D)) [(100000, .rigid cs)] (qe D v) [(100000, some (.rigid cs'))]) : CallOk D P f (.pp k 0 :: vs) s v s' := by
 have hold : ∀ q b2, mget s'.m q = some b2 -> ∃ b1, mget s.m q = some b1 := λq b2 hq => by
  rw [hm, jO] at hq;by_cases e : k = q
  .subst e; exact ⟨b, hbk⟩
  .rw [if_neg e] at hq; exact ⟨b2, hq⟩
 refine ⟨h.1, hs', by rw [hnx]; exact q6N _, hvok, hne, λq hq => .inl ?_, λus w H β hargs0 hM hon hdom => ?_⟩
 .cases hq2 : mget s'.m q with
  | none => exact absurd hq2 hq
  | some b2 => obtain ⟨b1, h1⟩ := hold q b2 hq2; rw [h1]; simp
 .cases us with
  | nil => exact hargs0.elim
  | cons u0 ur =>
   obtain ⟨h0, h1⟩ := hargs0;have h0 : ∃ bb c, β k.num = some (bb, c) /\ u0 = .pointer (some ⟨bb, 0, none⟩) := h0;obtain ⟨bb, c, hβ, rfl⟩ := h0;have hr0 : (Blk.rigid cs).rep β w H k.num := by rw [<- hb]; exact hM.rep k b hbk
   have e1 : ∀ β1 : Bm, β1 100000 = β k.num -> (Blk.rigid cs).rep β1 w H 100000 := λβ1 e => by
    obtain ⟨b0, c0, arr, T, r1, r2, r3⟩ := hr0;exact ⟨b0, c0, arr, T, e.trans r1, r2, Sats.congr (Heap.Le.refl _) (λk' hk => by rw [hc] at hk; cases hk) r3⟩
   have hcall := h.2 (.pointer (some ⟨bb, 0, none⟩) :: ur) w H (λn => if n = 100000 then β k.num else none) ⟨⟨bb, c, by simp [hβ], rfl⟩, hargs _ _ _ _ h1⟩
    (λp hp => by
     simp only [q6p, q6x, or_false] at hp;subst hp;refine ⟨e1 _ (by simp), λb0 c0 h0 => ?_⟩;simp only [if_true] at h0
     exact hM.own k b hbk b0 c0 h0)
    (λp hp p' hp' hne => by
     simp only [q6p, q6x, or_false] at hp hp'
     subst hp; subst hp'; exact absurd rfl hne) hon
   refine Calls.mono hcall ?_
   rintro e w' ⟨u, H', β', rfl, hst, hsat, hblk⟩
   have hkn : qx [(100000, Blk.rigid cs)] [(100000, some (Blk.rigid cs'))] = [] := rfl;have hkw : kwOf [(100000, Blk.rigid cs)] [(100000, some (Blk.rigid cs'))] = [100000] := rfl
   have hβ' : β' 100000 = β k.num := by
    have h0 : (100000 : Nat) ∉ qx [(100000, Blk.rigid cs)] [(100000, some (Blk.rigid cs'))] := by rw [hkn]; exact q6x
    rw [hst.beta 100000 h0]; exact if_pos rfl
   have hkeep : ∀ b0, b0 < w.heap.size -> (∀ c0, β k.num ≠ some (b0, c0)) -> w'.heap[b0]? = w.heap[b0]? := λb0 hb0 h0 => hst.keep b0 hb0 λk0 hk0 c0 => by
    rw [hkw] at hk0;simp only [q6p, q6x, or_false] at hk0;subst hk0;simp only [if_true]; exact h0 c0
   have hr1 : (Blk.rigid cs').rep β w' H' k.num := by
    obtain ⟨b0, c0, arr, T, r1, r2, r3⟩ := hblk 100000 (Blk.rigid cs') q6r;exact ⟨b0, c0, arr, T, hβ'.symm.trans r1, r2, Sats.congr (Heap.Le.refl _) (λk' hk => by rw [hc'] at hk; cases hk) r3⟩
   refine ⟨u, H', β, rfl, ⟨hst.os, hst.tape, hst.output, hst.size, λb0 hb0 hk0 => hkeep b0 hb0 λc0 => hk0 k (by rw [hbk]; simp) c0, hst.hle, hst.hnew, hst.hon, λq _ => rfl, λq b2 hq bb0 c0 hβ0 => .inr ?_⟩, hv _ _ _ _ hsat, ⟨λq b2 hq => ?_, λq b2 hq bb0 c0 hβ0 => ?_, λq q' b2 b3 hq hq' hne => ?_⟩⟩
   .obtain ⟨b1, h1⟩ := hold q b2 hq
    exact ⟨q, by rw [h1]; simp, c0, hβ0⟩
   .by_cases e : k = q
    .subst e
     rw [hm, FQ] at hq;cases hq;rw [hb']; exact hr1
    .rw [hm, K0 _ _ e] at hq
     refine Blk.rep_congr (hM.rep q b2 hq) hst.hle (λ_ _ => rfl) λb0 c0 h0 => hkeep b0 (hM.own q b2 hq b0 c0 h0).2 λc1 h1 => ?_
     exact hM.inj k q b b2 hbk hq e b0 c1 c0 h1 h0
   .obtain ⟨b1, h1⟩ := hold q b2 hq
    obtain ⟨h2, h3⟩ := hM.own q b1 h1 bb0 c0 hβ0;refine ⟨?_, q6Q h3 hst.size⟩
    cases hH : H' bb0 with
    | none => rfl
    | some cs0 =>
     rcases hst.hnew bb0 (by rw [hH]; simp) with h4 | h4
     .exact absurd h2 h4
     .omega
   .obtain ⟨b4, h4⟩ := hold q b2 hq
    obtain ⟨b5, h5⟩ := hold q' b3 hq';exact hM.inj q q' b4 b5 h4 h5 hne
def DOk(D:List Int):Prop:=D.length<=1048576/\ ∀z∈D,Int.natAbs z<=9223372036854775808
theorem Et: ∀D:List Int,D.flatMap (cellsC (.int .i64))=diC D
 |[]=>rfl
 |z::r=>by
  rw[q68,Et r];rfl
theorem Hm(D:List Int):argC (.sl (.int .i64)) D=qe D .dl:=by
 show AV.c (.one (.abs (flP (D.flatMap (cellsC (.int .i64))) D.length)))=AV.c (.one (.abs (diP D)));rw[Et];rfl
theorem q1d{f:FuncId}(hs:Sig P f (argsE [.sl (.int .i64)] D) (.c (.one (.val (.bool (decide (D.length<=500))))))):qI D P f (qJ (.light (decide (D.length<=500)))):=by
 intro vs s v s' hv hvs hsk;have hv:(match(generalizing:=false) vs with|[.dl]=>RO.ok (.bb (decide (D.length<=500))) s|_=> .no [26])=RO.ok v s':=hv;split at hv
 .injection hv with h1 h2
  subst h1;subst h2
  refine zI (vs:=[.dl]) ?_ hsk trivial (by simp);show Sig P f [qe D .dl] _;rw[<-Hm];exact hs
 .cases hv
theorem Vv(D:List Int)(j n:Nat)(hn:0<n):(if D.length<=min j D.length then(0:Int)else D.getD (min j D.length) 0%(n:Int))=((outc D j n:Nat):Int):=by
 unfold outc;by_cases h:D.length<=j
 .rw[if_pos (by omega),q6e h];rfl
 .have hj:j<D.length:=by omega
  rw[if_neg (by omega),show min j D.length=j by omega,q6d hj,q69,q6d hj];show D[j]%(n:Int)=(((D[j]%(n:Int)).toNat:Nat):Int);have:=Int.emod_nonneg D[j] (show(n:Int)≠0 by omega);omega
theorem q3e{f:FuncId}(hD:DOk D)(hs: ∀(l:List Int)(j:Nat)(m:Int),DOk l->j<=l.length->0<m->Bnd (.int .i64) (.n 1099511627776) m->
   SigG P f (.c (.one (.loc 100000 0))::argsE [.int .i64] m) [(100000,.rigid (qh (.pr (.sl (.int .i64)) (.nat .i64)) (l,j)))] (.c (.one (.val (.int .i64 (if l.length<=j then(0:Int)else l.getD j 0%m)))))
    [(100000,some (.rigid (qh (.pr (.sl (.int .i64)) (.nat .i64)) (if l.length<=j then(l,j)else(l,j+1)))))]):qI D P f (qJ .next):=by
 have cells: ∀j:Nat,qh (.pr (.sl (.int .i64)) (.nat .i64)) (D,j)=[.abs (diP D),.val (.int .i64 ((j:Nat):Int))]:=λj=>by
  show[Atom.abs (flP (D.flatMap (cellsC (.int .i64))) D.length),.val (.int .i64 ((j:Nat):Int))]=_;rw[Et];rfl
 intro vs s v s' hv hvs hsk
 have hv:(match(generalizing:=false) vs with
  |[.pp k 0,.nn .i64 n]=> @S.rec (λ_=>RO) (λm nx dn sc=>match(generalizing:=false) mget m k with
   |some (.di j)=> @Bool.rec (λ_=>RO) (.no [28]) (match(generalizing:=false) sc with
    |[]=> .need n
    |(n',x)::r=> @Bool.rec (λ_=>RO) (.no [29]) (.ok (.nn .i64 x) ⟨mset m k (some (.di (Nat.succ j))),nx,Nat.succ dn,r⟩) (Nat.beq n n')) (Nat.beq j dn&&(Nat.blt 0 n&&Nat.blt n 1099511627776))
   |_=> .no [30]) s
  |_=> .no [31])= .ok v s':=hv
 split at hv
 .rename_i k n _
  obtain⟨m,nx,dn,sc⟩:=s
  have hv:(match(generalizing:=false) mget m k with
   |some (.di j)=> @Bool.rec (λ_=>RO) (.no [28]) (match(generalizing:=false) sc with
    |[]=> .need n
    |(n',x)::r=> @Bool.rec (λ_=>RO) (.no [29]) (.ok (.nn .i64 x) ⟨mset m k (some (.di (Nat.succ j))),nx,Nat.succ dn,r⟩) (Nat.beq n n')) (Nat.beq j dn&&(Nat.blt 0 n&&Nat.blt n 1099511627776))
   |_=> .no [30])= .ok v s':=hv
  split at hv
  .rename_i j hk
   cases hb:(Nat.beq j dn&&(Nat.blt 0 n&&Nat.blt n 1099511627776))with
   |false=>rw[hb]at hv;cases hv
   |true=>
    rw[hb]at hv;simp only[q5X]at hb;obtain⟨h1,h2,h3⟩:=hb;have h1:j=dn:=q6I h1;have h2:0<n:=q6K h2;have h3:n<1099511627776:=q6K h3;subst h1
    cases sc with
    |nil=>cases hv
    |cons q r=>
     obtain⟨n',x⟩:=q;have hv: @Bool.rec (λ_=>RO) (.no [29]) (.ok (.nn .i64 x) ⟨mset m k (some (.di (Nat.succ j))),nx,Nat.succ j,r⟩) (Nat.beq n n')= .ok v s':=hv
     cases hn:Nat.beq n n' with
     |false=>rw[hn]at hv;cases hv
     |true=>
      rw[hn]at hv;have hv3:RO.ok (.nn .i64 x) ⟨mset m k (some (.di (Nat.succ j))),nx,Nat.succ j,r⟩= .ok v s':=hv;injection hv3 with g1 g2
      subst g1;subst g2
      have:=q6I hn;subst this;have hx:outc D j n=x:=hsk.agr 0 (n,x) rfl
      have hs2:SOK D ⟨mset m k (some (.di (Nat.succ j))),nx,Nat.succ j,r⟩:=by
       refine⟨λq b hq=>?_,λq hq=>?_,λi p hp=>?_⟩
       .have hq:mget (mset m k (some (.di (Nat.succ j)))) q=some b:=hq
        rw[jO]at hq;split at hq
        .cases hq;exact trivial
        .exact hsk.ok q b hq
       .have hq:mget (mset m k (some (.di (Nat.succ j)))) q≠none:=hq
        rw[jO]at hq;split at hq
        .rename_i e;subst e;exact hsk.lt k (show mget m k≠none by rw[hk];simp)
        .exact hsk.lt q hq
       .have:=hsk.agr (i+1) p hp
        rw[<-this];show outc D (j+1+i) p.1=outc D (j+(i+1)) p.1;rw[show j+1+i=j+(i+1) by omega]
      have hsg:=hs D (min j D.length) (n:Int) hD (Nat.min_le_right _ _) (by omega) (by show Int.natAbs (n:Int)<=_;simp;omega)
      have hn2:(if D.length<=min j D.length then(D,min j D.length)else(D,min j D.length+1))=((D,min (j+1) D.length):List Int×Nat):=by
       by_cases h:D.length<=j
       .rw[if_pos (by omega),show min j D.length=min (j+1) D.length by omega]
       .rw[if_neg (by omega),show min j D.length+1=min (j+1) D.length by omega]
      rw[Vv D j n h2,hx,hn2,cells,cells]at hsg;refine Xm (s:=⟨m,nx,j,(n,x)::r⟩) (b:= .di j) (b':= .di (j+1)) (vs:=[.nn .i64 n]) (v:= .nn .i64 x) hk rfl rfl (λ_=>rfl) (λ_=>rfl) (λβ β' H us h=>?_) (λβ β' H u h=>h) trivial (by simp) hs2 rfl rfl hsg
      match us,h with
      |[],h=>exact h.elim
      |[u],⟨h1,h2⟩=>exact⟨h1,h2⟩
      |_::_::_,⟨_,h⟩=>exact h.elim
  .cases hv
 .cases hv
theorem Z1{β:Bm}{w:World}{H:Heap}{k:Nat}{x:Blk}{b0 c0:Nat}(h:x.rep β w H k)(h0:β k=some (b0,c0)):b0<w.heap.size:=by
 cases x with
 |rigid cs=>
  obtain⟨b1,c1,arr,T,h1,h2,_⟩:=h;rw[h0]at h1;cases h1;exact(Array.getElem?_eq_some_iff.1 h2).1
 |grow es cs=>
  rcases h with⟨h1,_⟩|⟨b1,c1,arr,T,h1,h2,_⟩
  .rw[h0]at h1;cases h1
  .rw[h0]at h1;cases h1;exact(Array.getElem?_eq_some_iff.1 h2).1
 |mp l=>
  obtain⟨b1,c1,h1,h2⟩:=h;rw[h0]at h1;cases h1;exact(Array.getElem?_eq_some_iff.1 h2).1
 |mc l=>
  obtain⟨b1,c1,vs,h1,h2,_⟩:=h;rw[h0]at h1;cases h1;exact(Array.getElem?_eq_some_iff.1 h2).1
theorem Y3{f:FuncId}{k':Key}{b:KB}{vs:List V}{s s':S}(hsucc:s.nx.succ=some k')(hbok:b.ok)(hagr:AgrS D s')(hm:s'.m=mset s.m s.nx (some b))(hnx:s'.nx=k')
  (h:SigG P f (vs.map (qe D)) [] (qe D (.pp s.nx 0)) [(s.nx.num,some (b.blk D))])(hs:SOK D s):CallOk D P f vs s (.pp s.nx 0) s':=by
 have hnum:=Key.succ_num hsucc;have hget: ∀q,mget s'.m q=if s.nx=q then some b else mget s.m q:=λq=>by rw[hm,jO]
 have hs':SOK D s':=by
  refine⟨λq b2 hq=>?_,λq hq=>?_,hagr⟩
  .rw[hget]at hq
   split at hq
   .cases hq;exact hbok
   .exact hs.ok q b2 hq
  .rw[hget]at hq
   rw[hnx,hnum];split at hq
   .rename_i e;rw[<-e];omega
   .have:=hs.lt q hq;omega
 refine⟨h.1,hs',by rw[hnx,hnum];omega,trivial,by simp,λq hq=>?_,λus w H β hargs hM hon hdom=>?_⟩
 .rw[hget]at hq
  split at hq
  .rename_i e;rw[<-e];exact .inr (q6N _)
  .exact .inl hq
 .refine Calls.mono (h.2 us w H β hargs (λp hp=>by simp at hp) (λp hp=>by simp at hp) hon) ?_
  rintro e w' ⟨u,H',β',rfl,hst,hsat,hblk⟩
  have hkn:qx [] [(s.nx.num,some (b.blk D))]=[s.nx.num]:=rfl;have hkw:kwOf [] [(s.nx.num,some (b.blk D))]=[]:=rfl;have hkd:js [(s.nx.num,some (b.blk D))]=[]:=rfl;rw[hkn,hkw,hkd]at hst;have hb: ∀n,n≠s.nx.num->β' n=β n:=λn hn=>hst.beta n (by simpa using hn)
  have hq0: ∀q,mget s.m q≠none->q.num≠s.nx.num:=λq hq=>Nat.ne_of_lt (hs.lt q hq)
  have hnone:β s.nx.num=none:=hdom _ (q6N _) (by rw[hnx,hnum];omega);have hkeep: ∀b0,b0<w.heap.size->w'.heap[b0]?=w.heap[b0]?:=λb0 hb0=>hst.keep b0 hb0 λk0 hk0=>by simp at hk0
  have hnew: ∀b0 c0,β' s.nx.num=some (b0,c0)->H' b0=none/\w.heap.size<=b0:=λb0 c0 h0=>by
   obtain⟨h1,h2⟩:=hst.fresh s.nx.num (by simp) b0 c0 h0;refine⟨h1,?_⟩;rcases h2 with h2|⟨k0,h2,_⟩
   .exact h2
   .simp at h2
  have hold: ∀q b2,mget s.m q=some b2-> ∀bb c,β q.num=some (bb,c)->H' bb=none/\bb<w.heap.size:=λq b2 hq bb c h0=>by
   obtain⟨h1,h2⟩:=hM.own q b2 hq bb c h0;refine⟨?_,h2⟩
   cases hH:H' bb with
   |none=>rfl
   |some cs0=>
    rcases hst.hnew bb (by rw[hH];simp)with h4|h4
    .exact absurd h1 h4
    .omega
  have hsize: ∀b0 c0,β' s.nx.num=some (b0,c0)->b0<w'.heap.size:=λb0 c0 h0=>by
   have hr:(b.blk D).rep β' w' H' s.nx.num:=hblk s.nx.num (b.blk D) q6r;exact Z1 hr h0
  refine⟨u,H',β',rfl,⟨hst.os,hst.tape,hst.output,hst.size,λb0 hb0 _=>hkeep b0 hb0,hst.hle,hst.hnew,hst.hon,λn hn=>hb n (by rw[hnx,hnum]at hn;omega),λq b2 hq bb c h0=>?_⟩,hsat,⟨λq b2 hq=>?_,λq b2 hq bb c h0=>?_,λq q' b2 b3 hq hq' hne bb c c' h0 h1=>?_⟩⟩
  .rw[hget]at hq
   split at hq
   .rename_i e;subst e;exact .inl (hnew bb c h0).2
   .rw[hb _ (hq0 q (by rw[hq];simp))]at h0
    exact .inr ⟨q,by rw[hq];simp,c,h0⟩
  .rw[hget]at hq
   split at hq
   .rename_i e;subst e;cases hq
    exact hblk _ _ q6r
   .have hr:=hM.rep q b2 hq
    refine Blk.rep_congr hr hst.hle (λn hn=>?_) λb0 c0 h0=>hkeep b0 (hM.own q b2 hq b0 c0 h0).2
    refine hb n λe=>?_
    subst e;rcases hn with hn|hn
    .exact hq0 q (by rw[hq];simp) hn.symm
    .exact(DC (D:=D) b2 0).2.1 β w H q.num _ hr hn hnone
  .rw[hget]at hq
   split at hq
   .rename_i e;subst e;exact⟨(hnew bb c h0).1,hsize bb c h0⟩
   .rw[hb _ (hq0 q (by rw[hq];simp))]at h0
    obtain⟨h2,h3⟩:=hold q b2 hq bb c h0;exact⟨h2,q6Q h3 hst.size⟩
  .rw[hget]at hq hq'
   split at hq
   .rename_i e;subst e
    rw[if_neg hne]at hq';rw[hb _ (hq0 q' (by rw[hq'];simp))]at h1;have:=(hold q' b3 hq' bb c' h1).2;have:=(hnew bb c h0).2;omega
   .rename_i e
    rw[hb _ (hq0 q (by rw[hq];simp))]at h0;split at hq'
    .rename_i e2;subst e2
     have:=(hold q b2 hq bb c h0).2;have:=(hnew bb c' h1).2;omega
    .rw[hb _ (hq0 q' (by rw[hq'];simp))]at h1
     exact hM.inj q q' b2 b3 hq hq' hne bb c c' h0 h1
theorem q3f{f:FuncId}(hD:DOk D)(hs: ∀(d:Nat)(l:List Int),DOk l->SigG P f (argsE [.sl (.int .i64)] l) [] (.c (.one (.loc d 0))) [(d,some (.rigid (qh (.pr (.sl (.int .i64)) (.nat .i64)) (l,0))))]):qI D P f (qJ .roll):=by
 intro vs s v s' hv hvs hsk;have hv:(match(generalizing:=false) vs with|[.dl]=> @S.rec (λ_=>RO) (λm nx dn sc=>putK m nx dn sc (.pp nx 0) (.di 0)) s|_=> .no [27])=RO.ok v s':=hv;split at hv
 .obtain⟨m,nx,dn,sc⟩:=s
  have hv2:putK m nx dn sc (.pp nx 0) (.di 0)=RO.ok v s':=hv;unfold putK at hv2;split at hv2
  .rename_i k' hk'
   injection hv2 with h1 h2
   subst h1;subst h2
   have h:=hs nx.num D hD
   have hc:qh (.pr (.sl (.int .i64)) (.nat .i64)) (D,0)=[.abs (diP D),.val (.int .i64 ((min 0 D.length:Nat):Int))]:=by
    rw[Nat.zero_min];show[Atom.abs (flP (D.flatMap (cellsC (.int .i64))) D.length),.val (.int .i64 ((0:Nat):Int))]=_;rw[Et];rfl
   rw[hc]at h;refine Y3 (s:=⟨m,nx,dn,sc⟩) (b:= .di 0) (vs:=[.dl]) hk' trivial hsk.agr rfl rfl ?_ hsk;show SigG P f [qe D .dl] _ _ _;rw[<-Hm];exact h
  .cases hv2
 .cases hv
end
end
noncomputable section
section
variable {D:List Int} {P:Program}
theorem KG{f:FuncId}{vs:List V}{v:V}{s:S}{nx:Key}{s1:S}(h:CallOk D P f vs ⟨mnew,nx,0,[]⟩ v s1)(hs:SOK D s)(hp: ∀β β' H H' u,(qe D v).sat β H u->(qe D v).sat β' H' u)
  (ha: ∀β β' H us,AVs β H (vs.map (qe D)) us->AVs β' H (vs.map (qe D)) us):CallOk D P f vs s v s:=by
 refine⟨h.callable,hs,q6N _,h.ok,h.ne,λk hk=> .inl hk,λus w H β hargs hM hon hdom=>?_⟩;refine Calls.mono (h.calls us w H (λ_=>none) (ha _ _ _ _ hargs) ⟨λk b hb=>?_,λk b hb=>?_,λk k' b b' hb=>?_⟩ hon λ_ _ _=>rfl) ?_
 .have hb:mget mnew k=some b:=hb
  rw[wF]at hb;cases hb
 .have hb:mget mnew k=some b:=hb
  rw[wF]at hb;cases hb
 .have hb:mget mnew k=some b:=hb
  rw[wF]at hb;cases hb
 rintro e w' ⟨u,H',β',rfl,hst,hsat,_⟩
 have hkeep: ∀b,b<w.heap.size->w'.heap[b]?=w.heap[b]?:=λb hb=>hst.keep b hb λk hk=>absurd (wF k) hk
 refine⟨u,H,β,rfl,⟨hst.os,hst.tape,hst.output,hst.size,λb hb _=>hkeep b hb,Heap.Le.refl _,λb hb=> .inl hb,λb cs hb=>?_,λk _=>rfl,λk b hb bb c hβ=> .inr ⟨k,by rw[hb];simp,c,hβ⟩⟩,hp _ _ _ _ _ hsat,⟨λk b hb=>?_,λk b hb bb c hβ=>?_,hM.inj⟩⟩
 .obtain⟨T,fz,e⟩:=hon b cs hb
  exact⟨T,fz,by rw[hkeep b (hon.lt (by rw[hb];simp))];exact e⟩
 .exact Blk.rep_congr (hM.rep k b hb) (Heap.Le.refl _) (λ_ _=>rfl) (λbb c hβ=>hkeep bb (hM.own k b hb bb c hβ).2)
 .obtain⟨h3,h4⟩:=hM.own k b hb bb c hβ
  exact⟨h3,q6Q h4 hst.size⟩
theorem q5r{f:FuncId}{nx:Key}{s1:S}(h:CallOk D P f [] ⟨mnew,nx,0,[]⟩ (.bb true) s1):qI D P f (qJ .tru):=by
 intro vs s v s' hv hvs hsk;have hv:(match(generalizing:=false) vs with|[]=>RO.ok (.bb true) s|_=> .no [39])=RO.ok v s':=hv;split at hv
 .injection hv with h1 h2
  subst h1;subst h2
  exact KG h hsk (λβ β' H H' u h=>h) (λβ β' H us h=>by
   match us,h with
   |[],_=>exact trivial
   |_::_,h=>exact h.elim)
 .cases hv
theorem Xk{l l':List Nat}(h:beqN l l'=true):l=l':=Ek.1 h
theorem Ul{a b:V}(h:bq1 a b=true):a=b:=by
 unfold bq1 at h;split at h
 .split at h
  .simp only[qeq,q5X,beq_iff_eq]at h
   obtain⟨⟨h1,h2⟩,h3⟩:=h;have h1:=q6I h1;have h2:=q6I h2
   subst h1;subst h2;subst h3;rfl
  .cases h
 .split at h
  .rw[q6I h]
  .cases h
 .split at h
  .rw[q6I h]
  .cases h
 .split at h
  .rw[show _=_ from beq_iff_eq.1 h]
  .cases h
 .split at h
  .rw[Xk h]
  .cases h
 .cases h
theorem Ml: ∀{l r:List V},bqL l r=true->l=r
 |[],[],_=>rfl
 |[],_::_,h=>by cases h
 |_::_,[],h=>by cases h
 |a::l,b::r,h=>by
  have h: @Bool.rec (λ_=>Bool) false (bqL l r) (bq1 a b)=true:=h
  cases hb:bq1 a b with
  |false=>rw[hb]at h;cases h
  |true=>rw[hb]at h;rw[Ul hb,Ml (l:=l) h]
theorem Un{a b:V}(h:bqV a b=true):a=b:=by
 unfold bqV at h;split at h
 .split at h
  .simp only[q5X]at h
   rw[q6I h.1,Ml h.2]
  .cases h
 .split at h
  .rw[Ml h]
  .cases h
 .exact Ul h
theorem Um: ∀{l r:List V},bqA l r=true->l=r
 |[],[],_=>rfl
 |[],_::_,h=>by cases h
 |_::_,[],h=>by cases h
 |a::l,b::r,h=>by
  have h: @Bool.rec (λ_=>Bool) false (bqA l r) (bqV a b)=true:=h
  cases hb:bqV a b with
  |false=>rw[hb]at h;cases h
  |true=>rw[hb]at h;rw[Un hb,Um (l:=l) h]
def G1(v:V):Bool:=match v with| .qq _ _ _| .nn _ _| .zz _ _| .bb _| .st _=>true|_=>false
def Cb(v:V):Bool:=match v with| .nn _ _| .zz _ _| .bb _| .st _=>true|_=>false
def CL(v:V):Bool:=match v with| .tu l=>l.all Cb|v=>Cb v
def BF(v:V):Bool:=match v with| .ag _ l=>l.all G1|v=>G1 v
def arg1(v:V):Bool:=match v with| .qq s n d=>!(Nat.beq d 0)&&(Nat.beq (Nat.gcd n d) 1&&(!s||!(Nat.beq n 0)))| .nn _ _| .zz _ _| .bb _=>true|_=>false
def argB(v:V):Bool:=match v with| .ag w l=>Nat.beq w (wds l)&&l.all arg1|v=>arg1 v
theorem nbeq{a b:Nat}(h:(!(Nat.beq a b))=true):a≠b:=λe=>by subst e;rw[Nat.beq_refl]at h;cases h
theorem Jy{v:V}(h:arg1 v=true):v.un=true/\v.ok1:=by
 cases v with
 |qq s n d=>
  have h:(!(Nat.beq d 0)&&(Nat.beq (Nat.gcd n d) 1&&(!s||!(Nat.beq n 0))))=true:=h;simp only[q5X]at h;obtain⟨h1,h2,h3⟩:=h;refine⟨rfl,nbeq h1,q6I h2,λe=>?_⟩;subst e;exact nbeq (by simpa using h3)
 |_=>first|exact⟨rfl,trivial⟩|(simp[arg1]at h;done)
theorem q0c{v:V}(h:argB v=true):v.ok/\v≠ .und:=by
 cases v with
 |ag w l=>
  have h:(Nat.beq w (wds l)&&l.all arg1)=true:=h;simp only[q5X]at h;exact⟨⟨q6I h.1,λx hx=>Jy (List.all_eq_true.1 h.2 x hx)⟩,by simp⟩
 |qq s n d=>exact⟨(Jy (v:= .qq s n d) h).2,by simp⟩
 |_=>first|(simp[argB,arg1]at h;done)|exact⟨trivial,by simp⟩
theorem Lb: ∀{l:List V},l.all G1=true-> ∀k,jz k (cs D l)=false
 |[],_,k=>rfl
 |x::r,h,k=>by
  simp only[List.all_cons,q5X]at h;rw[vp,Dw,Lb h.2 k,Bool.or_false];have h1:=h.1;cases x<;>first|(simp[G1]at h1;done)|rfl
theorem Sk{v:V}(h:BF v=true)(β β':Bm)(H:Heap)(u:Value)(hs:(qe D v).sat β H u):(qe D v).sat β' H u:=by
 have hm: ∀k,(qe D v).men k=false:=by
  intro k
  cases v with
  |ag w l=>exact Lb (D:=D) (l:=l) h k
  |_=>first|(simp[BF,G1]at h;done)|rfl
 exact AV.sat_congr (Heap.Le.refl _) (λk hk=>by rw[hm k]at hk;cases hk) hs
theorem J5(β β':Bm)(H H':Heap): ∀{l:List V}{us:List Value},l.all Cb=true->CmpSats β H (l.map (V.cmp D)) us->CmpSats β' H' (l.map (V.cmp D)) us
 |[],[],_,_=>trivial
 |[],_::_,_,h=>h.elim
 |_::_,[],_,h=>h.elim
 |x::r,a::us,h,⟨h1,h2⟩=>by
  simp only[List.all_cons,q5X]at h;refine⟨?_,J5 β β' H H' h.2 h2⟩;have h3:=h.1;cases x<;>first|(simp[Cb]at h3;done)|exact h1
theorem Sl{v:V}(h:CL v=true)(β β':Bm)(H H':Heap)(u:Value)(hs:(qe D v).sat β H u):(qe D v).sat β' H' u:=by
 cases v with
 |tu l=>
  obtain⟨arr,h1,h2⟩:=(show∃arr:Array Value,u= .tuple arr/\CmpSats β H (l.map (V.cmp D)) arr.toList from hs);exact⟨arr,h1,J5 β β' H H' (show l.all Cb=true from h) h2⟩
 |_=>first|(simp[CL,Cb]at h;done)|exact hs
theorem q3d{f:FuncId}{L:List (List V×V)}{nx:Key}(hc: ∀p∈L,∃s1,CallOk D P f p.1 ⟨mnew,nx,0,[]⟩ p.2 s1)(hp: ∀p∈L,p.1.all BF=true/\CL p.2=true):qI D P f (qJ (.memo L)):=by
 intro vs s v s' hv hvs hsk
 induction L with
 |nil=>cases hv
 |cons p r ih=>
  have hv: @Bool.rec (λ_=>RO) (qJ (.memo r) vs s) (.ok p.2 s) (bqA p.1 vs)= .ok v s':=hv
  cases hb:bqA p.1 vs with
  |false=>rw[hb]at hv;exact ih (λq hq=>hc q (q6q _ hq)) (λq hq=>hp q (q6q _ hq)) hv
  |true=>
   rw[hb]at hv;have hv2:RO.ok p.2 s= .ok v s':=hv;injection hv2 with h1 h2
   subst h1;subst h2
   have e:=Um hb;obtain⟨s1,h1⟩:=hc p q6r;obtain⟨h2,h3⟩:=hp p q6r;rw[<-e];refine KG h1 hsk (λβ β' H H' u h=>Sl h3 _ _ _ _ _ h) λβ β' H us h=>?_
   have: ∀(l:List V) us,l.all BF=true->AVs β H (l.map (qe D)) us->AVs β' H (l.map (qe D)) us:=by
    intro l
    induction l with
    |nil=>intro us _ h;match us,h with
     |[],_=>exact trivial
     |_::_,h=>exact h.elim
    |cons x l ih=>
     intro us ha h;simp only[List.all_cons,q5X]at ha
     match us,h with
     |[],h=>exact h.elim
     |u::us,⟨h1,h2⟩=>exact⟨Sk ha.1 _ _ _ _ h1,ih us ha.2 h2⟩
   exact this _ _ h2 h
theorem q5q{f:FuncId}(hs: ∀x:Rat,Bnd .rat (.n 31) x->Sig P f (argsE [.rat] x) (.tup [.one (.val (.int .i64 (smlV x))),.one (.val (.bool (smlB x)))])):qI D P f (qJ .sml):=by
 refine DY (h:=λs a c=> @Bool.rec (λ_=>V) (.tu [.nn .i64 0,.bb false]) (.tu [@Bool.rec (λ_=>V) (.nn .i64 a) (@Nat.rec (λ_=>V) (.nn .i64 0) (λp _=> .zz .i64 p) a) s,.bb (Nat.blt a 268435456)]) (Nat.beq c 1&&Nat.blt a 4294967296)) (λx=> .tu [ofI .i64 (smlV x),.bb (smlB x)]) hs (λx=>?_) (λx=>?_) λx=>?_
 .by_cases h:x.den=1/\x.num.natAbs<4294967296
  .have e1:smlV x=x.num:=if_pos h
   have e2:smlB x=Nat.blt x.num.natAbs 268435456:=by
    unfold smlB;rw[Bool.eq_iff_iff];simp[h.1,Nat.blt_eq]
   have e3:(Nat.beq x.den 1&&Nat.blt x.num.natAbs 4294967296)=true:=by
    rw[q5X];exact⟨by rw[h.1];rfl,by simpa[Nat.blt_eq]using h.2⟩
   rw[e1,e2,e3];simp only;by_cases h0:x.num<0
   .rw[decide_eq_true h0]
    simp only;obtain⟨p,hp⟩:=Int.eq_negSucc_of_lt_zero h0;rw[hp];rfl
   .rw[decide_eq_false h0]
    simp only;obtain⟨p,hp⟩:=Int.eq_ofNat_of_zero_le (Int.not_lt.1 h0);rw[hp];rfl
  .have e1:smlV x=0:=if_neg h
   have e2:smlB x=false:=decide_eq_false λe=>h ⟨e.1,by omega⟩
   have e3:(Nat.beq x.den 1&&Nat.blt x.num.natAbs 4294967296)=false:=by
    rw[Bool.eq_false_iff];intro e;rw[q5X]at e;exact h ⟨q6I e.1,by simpa[Nat.blt_eq]using e.2⟩
   rw[e1,e2,e3];rfl
 .show AV.tup [.one (.val (.int .i64 (smlV x))),.one (.val (.bool (smlB x)))]=qe D (.tu [ofI .i64 (smlV x),.bb (smlB x)])
  cases smlV x<;>rfl
 .refine⟨λy hy=>?_,by simp⟩
  simp only[q6p,q6x,or_false]at hy;rcases hy with rfl|rfl
  .cases smlV x<;>exact trivial
  .exact trivial
theorem F3{x:Rat}(h1:smB x.num.natAbs=true)(h2:smB x.den=true):Bnd .rat (.n 31) x:=
 GW h1 h2
end
end
noncomputable section
section
variable {D:List Int} {P:Program}
def ptV(p:V3):V:= .ag 9 [rV p.1,rV p.2.1,rV p.2.2]
theorem LW{w:Nat}{a b c:Bool}{n d n' d' n'' d'':Nat}(h:(V.ag w [.qq a n d,.qq b n' d',.qq c n'' d'']).ok): ∃p:V3,a=decide (p.1.num<0)/\n=p.1.num.natAbs/\d=p.1.den/\b=decide (p.2.1.num<0)/\n'=p.2.1.num.natAbs/\d'=p.2.1.den/\c=decide (p.2.2.num<0)/\n''=p.2.2.num.natAbs/\d''=p.2.2.den/\w=9:=by
 obtain⟨hw,hl⟩:=(show w=wds _/\okL _ from h);obtain⟨h1,h2⟩:=jW.1 hl;obtain⟨h2,h3⟩:=jW.1 h2;obtain⟨h3,_⟩:=jW.1 h3;obtain⟨x,e1,e2,e3⟩:=GO h1.2;obtain⟨y,e4,e5,e6⟩:=GO h2.2;obtain⟨z,e7,e8,e9⟩:=GO h3.2;exact⟨(x,y,z),e1,e2,e3,e4,e5,e6,e7,e8,e9,hw⟩
theorem GX{p:V3}(h:(j5 p.1.num.natAbs p.1.den&&(j5 p.2.1.num.natAbs p.2.1.den&&j5 p.2.2.num.natAbs p.2.2.den))=true):Bnd tV3 (bV3 31) p:=by
 simp only[j5,q5X]at h;obtain⟨⟨h1,h2⟩,⟨h3,h4⟩,h5,h6⟩:=h;exact⟨F3 h1 h2,F3 h3 h4,F3 h5 h6⟩
theorem Ci{p:V3}(h:Bnd tV3 (bV3 31) p){b:Nat}(hb:31<=b:=by decide):Bnd tV3 (bV3 b) p:=⟨NH h.1 hb,NH h.2.1 hb,NH h.2.2 hb⟩
theorem ZV{f:FuncId}(hs: ∀p q:V3,Bnd tV3 (bV3 31) p->Bnd tV3 (bV3 31) q->Sig P f (argsE [tV3,tV3] (p,q)) (.c (.one (.val (.bool (decide (p=q))))))):qI D P f (qJ .vsm):=by
 intro vs s v s' hv0 hvs hsk
 have hv:(match(generalizing:=false) vs with
  |[.ag _ [.qq a1 b1 c1,.qq a2 b2 c2,.qq a3 b3 c3],.ag _ [.qq d1 e1 f1,.qq d2 e2 f2,.qq d3 e3 f3]]=> @Bool.rec (λ_=>RO) (.no [47]) (.ok (.bb (qeq a1 b1 c1 d1 e1 f1&&(qeq a2 b2 c2 d2 e2 f2&&qeq a3 b3 c3 d3 e3 f3))) s) ((j5 b1 c1&&(j5 b2 c2&&j5 b3 c3))&&(j5 e1 f1&&(j5 e2 f2&&j5 e3 f3)))
  |_=> .no [48])=RO.ok v s':=hv0
 clear hv0;split at hv
 .rename_i w a1 b1 c1 a2 b2 c2 a3 b3 c3 w' d1 e1 f1 d2 e2 f2 d3 e3 f3
  obtain⟨p,rfl,rfl,rfl,rfl,rfl,rfl,rfl,rfl,rfl,rfl⟩:=LW (hvs (.ag w [.qq a1 b1 c1,.qq a2 b2 c2,.qq a3 b3 c3]) (by simp)).1;obtain⟨q,rfl,rfl,rfl,rfl,rfl,rfl,rfl,rfl,rfl,rfl⟩:=LW (hvs (.ag w' [.qq d1 e1 f1,.qq d2 e2 f2,.qq d3 e3 f3]) (by simp)).1
  cases hb:((j5 p.1.num.natAbs p.1.den&&(j5 p.2.1.num.natAbs p.2.1.den&&j5 p.2.2.num.natAbs p.2.2.den))&&(j5 q.1.num.natAbs q.1.den&&(j5 q.2.1.num.natAbs q.2.1.den&&j5 q.2.2.num.natAbs q.2.2.den)))with
  |false=>rw[hb]at hv;cases hv
  |true=>
   rw[hb,G2,G2,G2]at hv;rw[q5X]at hb;have hv:RO.ok (.bb (decide (p.1=q.1)&&(decide (p.2.1=q.2.1)&&decide (p.2.2=q.2.2)))) s= .ok v s':=hv;injection hv with g1 g2
   have h:=hs p q (GX hb.1) (GX hb.2);rw[show decide (p=q)=(decide (p.1=q.1)&&(decide (p.2.1=q.2.1)&&decide (p.2.2=q.2.2))) by rw[Bool.eq_iff_iff];simp[NZ]]at h;subst g1;subst g2
   exact zI (vs:=[ptV p,ptV q]) h hsk trivial (by simp)
 .cases hv
end
end
noncomputable section
section
variable {D:List Int} {P:Program}
theorem Cg{x:Rat}(h:j5 x.num.natAbs x.den=true):Bnd .rat (.n 31) x:=by
 simp only[j5,q5X]at h;exact F3 h.1 h.2
theorem q5m{f:FuncId}(hs: ∀p q:V3,Bnd tV3 (bV3 31) p->Bnd tV3 (bV3 31) q->dotB p q->Sig P f (argsE [tV3,tV3] (p,q)) (.c (.agg (qh .rat (dotQ p q))))):qI D P f (qJ .dot):=by
 intro vs s v s' hv0 hvs hsk
 have hv:(match(generalizing:=false) vs with
  |[.ag _ [.qq a1 b1 c1,.qq a2 b2 c2,.qq a3 b3 c3],.ag _ [.qq d1 e1 f1,.qq d2 e2 f2,.qq d3 e3 f3]]=> @Bool.rec (λ_=>RO) (.no [51]) (match(generalizing:=false) qmul a1 b1 c1 d1 e1 f1,qmul a2 b2 c2 d2 e2 f2,qmul a3 b3 c3 d3 e3 f3 with
   | .qq s1 n1 m1,.qq s2 n2 m2,.qq s3 n3 m3=>(match(generalizing:=false) qadd s1 n1 m1 s2 n2 m2 with
    | .qq s4 n4 m4=>(match(generalizing:=false) qadd s4 n4 m4 s3 n3 m3 with
     | .qq s5 n5 m5=> @Bool.rec (λ_=>RO) (.no [52]) (.ok (.qq s5 n5 m5) s) (j5 n1 m1&&(j5 n2 m2&&(j5 n3 m3&&(j5 n4 m4&&j5 n5 m5))))
     |_=> .no [53])
    |_=> .no [53])
   |_,_,_=> .no [53]) ((j5 b1 c1&&(j5 b2 c2&&j5 b3 c3))&&(j5 e1 f1&&(j5 e2 f2&&j5 e3 f3)))
  |_=> .no [54])=RO.ok v s':=hv0
 clear hv0;split at hv
 .rename_i w a1 b1 c1 a2 b2 c2 a3 b3 c3 w' d1 e1 f1 d2 e2 f2 d3 e3 f3
  obtain⟨p,rfl,rfl,rfl,rfl,rfl,rfl,rfl,rfl,rfl,rfl⟩:=LW (hvs (.ag w [.qq a1 b1 c1,.qq a2 b2 c2,.qq a3 b3 c3]) (by simp)).1;obtain⟨q,rfl,rfl,rfl,rfl,rfl,rfl,rfl,rfl,rfl,rfl⟩:=LW (hvs (.ag w' [.qq d1 e1 f1,.qq d2 e2 f2,.qq d3 e3 f3]) (by simp)).1
  cases hb:((j5 p.1.num.natAbs p.1.den&&(j5 p.2.1.num.natAbs p.2.1.den&&j5 p.2.2.num.natAbs p.2.2.den))&&(j5 q.1.num.natAbs q.1.den&&(j5 q.2.1.num.natAbs q.2.1.den&&j5 q.2.2.num.natAbs q.2.2.den)))with
  |false=>rw[hb]at hv;cases hv
  |true=>
   rw[hb,GN,GN,GN]at hv;rw[q5X]at hb
   have hv:(match(generalizing:=false) qadd (decide ((p.1*q.1).num<0)) (p.1*q.1).num.natAbs (p.1*q.1).den (decide ((p.2.1*q.2.1).num<0)) (p.2.1*q.2.1).num.natAbs (p.2.1*q.2.1).den with
    | .qq s4 n4 m4=>(match(generalizing:=false) qadd s4 n4 m4 (decide ((p.2.2*q.2.2).num<0)) (p.2.2*q.2.2).num.natAbs (p.2.2*q.2.2).den with
     | .qq s5 n5 m5=> @Bool.rec (λ_=>RO) (.no [52]) (.ok (.qq s5 n5 m5) s) (j5 (p.1*q.1).num.natAbs (p.1*q.1).den&&(j5 (p.2.1*q.2.1).num.natAbs (p.2.1*q.2.1).den&&(j5 (p.2.2*q.2.2).num.natAbs (p.2.2*q.2.2).den&&(j5 n4 m4&&j5 n5 m5))))
     |_=> .no [53])
    |_=> .no [53])=RO.ok v s':=hv
   rw[GM,AB]at hv
   have hv:(match(generalizing:=false) qadd (decide ((p.1*q.1+p.2.1*q.2.1).num<0)) (p.1*q.1+p.2.1*q.2.1).num.natAbs (p.1*q.1+p.2.1*q.2.1).den (decide ((p.2.2*q.2.2).num<0)) (p.2.2*q.2.2).num.natAbs (p.2.2*q.2.2).den with
     | .qq s5 n5 m5=> @Bool.rec (λ_=>RO) (.no [52]) (.ok (.qq s5 n5 m5) s) (j5 (p.1*q.1).num.natAbs (p.1*q.1).den&&(j5 (p.2.1*q.2.1).num.natAbs (p.2.1*q.2.1).den&&(j5 (p.2.2*q.2.2).num.natAbs (p.2.2*q.2.2).den&&(j5 (p.1*q.1+p.2.1*q.2.1).num.natAbs (p.1*q.1+p.2.1*q.2.1).den&&j5 n5 m5))))
     |_=> .no [53])=RO.ok v s':=hv
   rw[GM,AB]at hv
   have hv: @Bool.rec (λ_=>RO) (.no [52]) (.ok (rV (p.1*q.1+p.2.1*q.2.1+p.2.2*q.2.2)) s) (j5 (p.1*q.1).num.natAbs (p.1*q.1).den&&(j5 (p.2.1*q.2.1).num.natAbs (p.2.1*q.2.1).den&&(j5 (p.2.2*q.2.2).num.natAbs (p.2.2*q.2.2).den&&
    (j5 (p.1*q.1+p.2.1*q.2.1).num.natAbs (p.1*q.1+p.2.1*q.2.1).den&&j5 (p.1*q.1+p.2.1*q.2.1+p.2.2*q.2.2).num.natAbs (p.1*q.1+p.2.1*q.2.1+p.2.2*q.2.2).den))))=RO.ok v s':=hv
   cases hc:(j5 (p.1*q.1).num.natAbs (p.1*q.1).den&&(j5 (p.2.1*q.2.1).num.natAbs (p.2.1*q.2.1).den&&(j5 (p.2.2*q.2.2).num.natAbs (p.2.2*q.2.2).den&&
    (j5 (p.1*q.1+p.2.1*q.2.1).num.natAbs (p.1*q.1+p.2.1*q.2.1).den&&j5 (p.1*q.1+p.2.1*q.2.1+p.2.2*q.2.2).num.natAbs (p.1*q.1+p.2.1*q.2.1+p.2.2*q.2.2).den))))with
   |false=>rw[hc]at hv;cases hv
   |true=>
    rw[hc]at hv;simp only[q5X]at hc;obtain⟨h1,h2,h3,h4,h5⟩:=hc;have hv:RO.ok (rV (p.1*q.1+p.2.1*q.2.1+p.2.2*q.2.2)) s= .ok v s':=hv;injection hv with g1 g2
    subst g1;subst g2
    have h:=hs p q (GX hb.1) (GX hb.2) ⟨Cg h1,by rw[Rat.zero_add];exact Cg h1,Cg h2,by rw[Rat.zero_add];exact Cg h4,Cg h3,by rw[Rat.zero_add];exact Cg h5⟩;exact zI (vs:=[ptV p,ptV q]) (v:=rV (dotQ p q)) h hsk (LX _) (by simp[rV])
 .cases hv
end
end
noncomputable section
section
variable {D:List Int}
theorem pk_8:qI D Go.Proofs.Tryz.prog 8 (qJ .frac):=q3b λu v hu hv h0=>q20.sig (u,v) ⟨hu,hv⟩ (λp hp=>by simp at hp)
theorem q5s:qI D Go.Proofs.Tryz.prog 14 (qJ .int):=ZR λz hz=>q4N.sig z (hz.mono (by decide)) (λp hp=>by simp at hp)
theorem q5t:qI D Go.Proofs.Tryz.prog 27 (qJ .make):=q3c λu v hu hv h0=>by have:=Rh.sig (u,v) ⟨hu,hv⟩ (λp hp=>by simp at hp);rw[show(Km.res Km.bs (u,v)).exp= .tup [.agg (qh .rat ((u:Rat)/(v:Rat))),.one (.val (.int .i64 (mkC' v)))]from rfl,show mkC' v=0 from if_neg h0]at this;exact this
theorem q5u:qI D Go.Proofs.Tryz.prog 28 (qJ .add):=ZO λx y hx hy=>Ou.sig (x,y) ⟨hx,hy⟩ (λp hp=>by simp at hp)
theorem q5v:qI D Go.Proofs.Tryz.prog 29 (qJ .mul):=ZS λx y hx hy=>Xe.sig (x,y) ⟨hx,hy⟩ (λp hp=>by simp at hp)
theorem q5w:qI D Go.Proofs.Tryz.prog 30 (qJ .sub):=ZU λx y hx hy=>q4Y.sig (x,y) ⟨hx,hy⟩ (λp hp=>by simp at hp)
theorem q5x:qI D Go.Proofs.Tryz.prog 33 (qJ .cmp):=ZP λx y hx hy=>Xc.sig (x,y) ⟨hx,hy⟩ (λp hp=>by simp at hp)
theorem q5y:qI D Go.Proofs.Tryz.prog 34 (qJ .same):=Vx λx y hx hy=>Ri.sig (x,y) ⟨hx,hy⟩ (λp hp=>by simp at hp)
theorem q5z:qI D Go.Proofs.Tryz.prog 35 (qJ .neg):=q5p λx hx=>Xf.sig x hx (λp hp=>by simp at hp)
theorem q5A:qI D Go.Proofs.Tryz.prog 37 (qJ .dot):=q5m λp q hp hq hb=>q3T.sig (p,q) ⟨Ci hp,Ci hq⟩ (λx hx=>by rw[q6v.1 hx];exact hb)
theorem q5B:qI D Go.Proofs.Tryz.prog 55 (qJ .vsm):=ZV λp q hp hq=>Zn.sig (p,q) ⟨Ci hp,Ci hq⟩ (λp hp=>by simp at hp)
theorem q5C:qI D Go.Proofs.Tryz.prog 68 (qJ .sign):=Vy λx hx=>Rj.sig x hx (λp hp=>by simp at hp)
theorem q3h:qI D Go.Proofs.Tryz.prog 139 (qJ .min):=q5o λx y hx hy=>q4R.sig (x,y) ⟨hx,hy⟩ (λp hp=>by simp at hp)
theorem q3i:qI D Go.Proofs.Tryz.prog 140 (qJ .max):=q5n λx y hx hy=>q4P.sig (x,y) ⟨hx,hy⟩ (λp hp=>by simp at hp)
theorem q3j:qI D Go.Proofs.Tryz.prog 145 (qJ .sign):=Vy λx hx=>QT.sig x hx (λp hp=>by simp at hp)
theorem q3k:qI D Go.Proofs.Tryz.prog 146 (qJ .quo):=ZT λx y hx hy=>q43.sig (x,y) ⟨hx,hy⟩ (λp hp=>by simp at hp)
theorem q3l:qI D Go.Proofs.Tryz.prog 147 (qJ .int):=ZR λz hz=>q3W.sig z (hz.mono (by decide)) (λp hp=>by simp at hp)
theorem q3m:qI D Go.Proofs.Tryz.prog 148 (qJ .abs):=ZN λx hx=>q3I.sig x hx (λp hp=>by simp at hp)
theorem q3n:qI D Go.Proofs.Tryz.prog 150 (qJ .mul):=ZS λx y hx hy=>q3Y.sig (x,y) ⟨hx,hy⟩ (λp hp=>by simp at hp)
theorem q3o:qI D Go.Proofs.Tryz.prog 156 (qJ .vsm):=ZV λp q hp hq=>Zl.sig (p,q) ⟨Ci hp,Ci hq⟩ (λp hp=>by simp at hp)
theorem q3p:qI D Go.Proofs.Tryz.prog 157 (qJ .sml):=q5q λx hx=>q3C.sig x hx (λp hp=>by simp at hp)
theorem q3q:qI D Go.Proofs.Tryz.prog 167 (qJ .cmp):=ZP λx y hx hy=>q3N.sig (x,y) ⟨hx,hy⟩ (λp hp=>by simp at hp)
theorem q3r:qI D Go.Proofs.Tryz.prog 198 (qJ .small):=QG λx u hx hu h0=>X7.sig (x,u) ⟨hx,hu⟩ (λp hp=>by(rcases q6p.1 hp with h|h)<;>first|(rw[h];exact h0)|simp at h)
theorem q3s:qI D Go.Proofs.Tryz.prog 211 (qJ .quo):=ZT λx y hx hy=>q4V.sig (x,y) ⟨hx,hy⟩ (λp hp=>by simp at hp)
theorem q3t:qI D Go.Proofs.Tryz.prog 212 (qJ .abs):=ZN λx hx=>q4H.sig x hx (λp hp=>by simp at hp)
theorem q3u:qI D Go.Proofs.Tryz.prog 225 (qJ .idq):=ZQ λx hx=>Ld.sig x (Gj hx) (λp hp=>by simp at hp)
theorem q3v:qI D Go.Proofs.Tryz.prog 232 (qJ .same):=Vx λx y hx hy=>QR.sig (x,y) ⟨(Gj hx),(Gj hy)⟩ (λp hp=>by simp at hp)
theorem q3w:qI D Go.Proofs.Tryz.prog 238 (qJ .add):=ZO λx y hx hy=>q1k.sig (x,y) ⟨hx,hy⟩ (λp hp=>by simp at hp)
theorem q3x:qI D Go.Proofs.Tryz.prog 239 (qJ .sub):=ZU λx y hx hy=>q45.sig (x,y) ⟨hx,hy⟩ (λp hp=>by simp at hp)
theorem q3y:qI D Go.Proofs.Tryz.prog 249 (qJ .idq):=ZQ λx hx=>q3a.sig x (Gj hx) (λp hp=>by simp at hp)
theorem q3z:qI D Go.Proofs.Tryz.prog 263 (qJ .trim):=q3g λx hx=>Lp x hx (λp hp=>by simp at hp)
theorem q3A:qI D Go.Proofs.Tryz.prog 273 (qJ .small):=QG λx u hx hu h0=>q1K.sig (x,u) ⟨hx,hu⟩ (λp hp=>by(rcases q6p.1 hp with h|h)<;>first|(rw[h];exact h0)|simp at h)
def tbA:List (Nat×Pt):=[(8,.frac),(14,.int),(27,.make),(28,.add),(29,.mul),(30,.sub),(33,.cmp),(34,.same),(35,.neg),(37,.dot),(55,.vsm),(68,.sign),(139,.min),(140,.max),(145,.sign),(146,.quo),(147,.int),(148,.abs),(150,.mul),(156,.vsm),(157,.sml),(167,.cmp),(198,.small),(211,.quo),(212,.abs),(225,.idq),(232,.same),(238,.add),(239,.sub),(249,.idq),(263,.trim),(273,.small)]
theorem WP: ∀p∈tbA,qI D Go.Proofs.Tryz.prog p.1 (qJ p.2):=λp hp=>by
 unfold tbA at hp;simp only[q6p,q6x,or_false]at hp;rcases hp with rfl|rfl|rfl|rfl|rfl|rfl|rfl|rfl|rfl|rfl|rfl|rfl|rfl|rfl|rfl|rfl|rfl|rfl|rfl|rfl|rfl|rfl|rfl|rfl|rfl|rfl|rfl|rfl|rfl|rfl|rfl|rfl
 .exact pk_8
 .exact q5s
 .exact q5t
 .exact q5u
 .exact q5v
 .exact q5w
 .exact q5x
 .exact q5y
 .exact q5z
 .exact q5A
 .exact q5B
 .exact q5C
 .exact q3h
 .exact q3i
 .exact q3j
 .exact q3k
 .exact q3l
 .exact q3m
 .exact q3n
 .exact q3o
 .exact q3p
 .exact q3q
 .exact q3r
 .exact q3s
 .exact q3t
 .exact q3u
 .exact q3v
 .exact q3w
 .exact q3x
 .exact q3y
 .exact q3z
 .exact q3A
end
end
noncomputable section
section
variable {D:List Int}
theorem DOk.bnd{l:List Int}(h:DOk l):Bnd (.sl (.int .i64)) (.s 1048576 (.n 9223372036854775808)) l:=⟨h.1,h.2⟩
theorem NC(hD:Bnd (.sl (.int .i64)) (.s 9223372036854775807 (.n 9223372036854775808)) D):qI D Go.Proofs.Tryz.prog 4 (qJ (.light (decide (D.length<=500)))):=q1d (q13.sig D hD (λp hp=>by simp at hp))
theorem q1h(hD:DOk D):qI D Go.Proofs.Tryz.prog 6 (qJ .roll):=q3f hD λd l hl=>q0x.sig d l hl.bnd (λp hp=>by simp at hp)
theorem q1g(hD:DOk D):qI D Go.Proofs.Tryz.prog 7 (qJ .next):=q3e hD λl j m hl hj h0 hm=>by
 have h:=q0v.sig (l,j) m ⟨hl.bnd,(show j<=1048576 from q6O hj hl.1)⟩ hm (λp hp=>by(rcases q6p.1 hp with h|h)<;>first|(rw[h];exact h0)|simp at h);exact h
end
end
noncomputable section
section
variable {D:List Int} {P:Program}
end
end
noncomputable section
section
variable {D:List Int} {P:Program}
def Go2(R:Rn)(β1 β2:Bm):Prop:= ∀a b,rlk R a=some b->β1 a.num=β2 b.num
theorem V4{a b:Key}(h:kqB a b=true):a=b:=Key.num_inj (q6I h)
theorem N4(a:Key):kqB a a=true:=Nat.beq_refl a.num
theorem CN(p:Key×Key)(R:Rn)(k:Key):rlk (p::R) k=if p.1=k then some p.2 else rlk R k:=by
 show @Bool.rec (λ_=>Option Key) (rlk R k) (some p.2) (kqB p.1 k)=_;by_cases h:p.1=k
 .rw[if_pos h,h,N4]
 .rw[if_neg h]
  cases hb:kqB p.1 k with
  |false=>rfl
  |true=>exact absurd (V4 hb) h
theorem E6(R R':Rn)(k:Key):rlk (R++R') k=(match rlk R k with|some b=>some b|none=>rlk R' k):=by
 induction R with
 |nil=>rfl
 |cons p R ih=>
  rw[List.cons_append,CN,CN,ih];by_cases h:p.1=k
  .rw[if_pos h,if_pos h]
  .rw[if_neg h,if_neg h]
theorem E7{R:Rn}{a b:Key}(h:rlk R a=some b):(a,b)∈R:=by
 induction R with
 |nil=>cases h
 |cons p R ih=>
  rw[CN]at h;split at h
  .rename_i e
   cases h;subst e;exact q6r
  .exact q6q _ (ih h)
theorem E5{R:Rn}{a b:Key}(h:rhas R a b=true):rlk R a=some b:=by
 unfold rhas at h;split at h
 .rename_i k hk
  rw[hk,V4 h]
 .cases h
theorem L6{k:Key}{R:Rn}(h:notK k R=true): ∀p∈R,p.2≠k:=by
 induction R with
 |nil=>intro p hp;cases hp
 |cons q R ih=>
  have h: @Bool.rec (λ_=>Bool) (notK k R) false (kqB q.2 k)=true:=h;intro p hp
  cases hb:kqB q.2 k with
  |true=>rw[hb]at h;cases h
  |false=>
   rw[hb]at h;rcases q6p.1 hp with rfl|hp
   .intro e;rw[e,N4]at hb;cases hb
   .exact ih h p hp
theorem Eu{R:Rn}(h:dsnB R=true){a a' b:Key}(h1:rlk R a=some b)(h2:rlk R a'=some b):a=a':=by
 induction R with
 |nil=>cases h1
 |cons p R ih=>
  have h: @Bool.rec (λ_=>Bool) false (dsnB R) (notK p.2 R)=true:=h
  cases hb:notK p.2 R with
  |false=>rw[hb]at h;cases h
  |true=>
   rw[hb]at h;have hn:=L6 hb;rw[CN]at h1 h2;split at h1
   .rename_i e1
    split at h2
    .rename_i e2;rw[<-e1,<-e2]
    .cases h1;exact absurd rfl (hn (a',_) (E7 h2))
   .split at h2
    .cases h2;exact absurd rfl (hn (a,_) (E7 h1))
    .exact ih h h1 h2
def ARels(β1 β2:Bm):List Atom->List Atom->Prop
 |[],[]=>True
 |a::l,b::r=>(∀H v,a.sat β1 H v↔b.sat β2 H v)/\ARels β1 β2 l r
 |_,_=>False
theorem ARels.app{β1 β2:Bm}: ∀{l r l' r':List Atom},ARels β1 β2 l r->ARels β1 β2 l' r'->ARels β1 β2 (l++l') (r++r')
 |[],[],_,_,_,h=>h
 |a::l,b::r,_,_,⟨h1,h2⟩,h=>⟨h1,ARels.app h2 h⟩
 |[],_::_,_,_,h,_=>h.elim
 |_::_,[],_,_,h,_=>h.elim
theorem ARels.sats{β1 β2:Bm}: ∀{l r:List Atom},ARels β1 β2 l r-> ∀H vs,Sats β1 H l vs↔Sats β2 H r vs
 |[],[],_,_,[]=>Iff.rfl
 |[],[],_,_,_::_=>Iff.rfl
 |a::l,b::r,⟨h1,h2⟩,H,[]=>Iff.rfl
 |a::l,b::r,⟨h1,h2⟩,H,v::vs=>by
  show(a.sat β1 H v/\Sats β1 H l vs)↔(b.sat β2 H v/\Sats β2 H r vs);rw[h1 H v,ARels.sats h2 H vs]
 |[],_::_,h,_,_=>h.elim
 |_::_,[],h,_,_=>h.elim
theorem ARels.len{β1 β2:Bm}: ∀{l r:List Atom},ARels β1 β2 l r->l.length=r.length
 |[],[],_=>rfl
 |a::l,b::r,⟨h1,h2⟩=>by rw[q6i,q6i,ARels.len h2]
 |[],_::_,h=>h.elim
 |_::_,[],h=>h.elim
theorem q4k{v w:Value}(h:uuB v w=true):v=w:=by
 unfold uuB at h;split at h
 .split at h
  .simp only[q5X]at h
   rw[q6I h.1,q6I h.2]
  .cases h
 .split at h
  .rfl
  .cases h
 .split at h
  .rfl
  .cases h
 .cases h
theorem Qo{a b:IntKind}(h:keq a b=true):a=b:=by cases a<;>cases b<;>first|rfl|cases h
theorem PX{R:Rn}{β1 β2:Bm}(hG:Go2 R β1 β2){a b:V}(h:cq1 R a b=true):(ARels β1 β2 (a.c1 D) (b.c1 D)/\a.wd=b.wd/\a.un=true/\b.un=true/\(a.ok1↔b.ok1))/\(a=b/\a.on=false\/a.on=true/\b.on=true):=by
 unfold cq1 at h;split at h<;>first|(cases h;done)|(split at h<;>first|(cases h;done)|skip)
 .simp only[q5X,beq_iff_eq]at h
  obtain⟨h1,h2,h3⟩:=h;rw[q6I h1,q6I h2,h3];exact⟨⟨⟨λ_ _=>Iff.rfl,λ_ _=>Iff.rfl,λ_ _=>Iff.rfl,trivial⟩,rfl,rfl,rfl,Iff.rfl⟩,.inl ⟨rfl,rfl⟩⟩
 .simp only[q5X]at h
  rw[q6I h.1,Qo h.2];exact⟨⟨⟨λ_ _=>Iff.rfl,trivial⟩,rfl,rfl,rfl,Iff.rfl⟩,.inr ⟨rfl,rfl⟩⟩
 .simp only[q5X]at h
  rw[q6I h.1,Qo h.2];exact⟨⟨⟨λ_ _=>Iff.rfl,trivial⟩,rfl,rfl,rfl,Iff.rfl⟩,.inr ⟨rfl,rfl⟩⟩
 .rw[beq_iff_eq]at h
  rw[h];exact⟨⟨⟨λ_ _=>Iff.rfl,trivial⟩,rfl,rfl,rfl,Iff.rfl⟩,.inr ⟨rfl,rfl⟩⟩
 .rw[Ek.1 h]
  exact⟨⟨⟨λ_ _=>Iff.rfl,trivial⟩,rfl,rfl,rfl,Iff.rfl⟩,.inr ⟨rfl,rfl⟩⟩
 .rw[q6I h]
  exact⟨⟨⟨λ_ _=>Iff.rfl,trivial⟩,rfl,rfl,rfl,Iff.rfl⟩,.inr ⟨rfl,rfl⟩⟩
 .rw[q4k h]
  exact⟨⟨⟨λ_ _=>Iff.rfl,trivial⟩,rfl,rfl,rfl,Iff.rfl⟩,.inr ⟨rfl,rfl⟩⟩
 .rename_i k o _ k' o'
  simp only[q5X]at h;have hk:=hG _ _ (E5 h.1);rw[q6I h.2];refine⟨⟨⟨λH v=>?_,trivial⟩,rfl,rfl,rfl,Iff.rfl⟩,.inr ⟨rfl,rfl⟩⟩;show(∃b c,β1 k.num=some (b,c)/\_)↔(∃b c,β2 k'.num=some (b,c)/\_);rw[hk]
 .rename_i k i o w _ k' i' o' w'
  simp only[q5X]at h;have hk:=hG _ _ (E5 h.1);rw[q6I h.2.1,q6I h.2.2.1,q6I h.2.2.2];refine⟨⟨⟨λH v=>?_,trivial⟩,rfl,rfl,rfl,Iff.rfl⟩,.inr ⟨rfl,rfl⟩⟩;show(∃b c,β1 k.num=some (b,c)/\_)↔(∃b c,β2 k'.num=some (b,c)/\_);rw[hk]
 .rename_i k lo n c w _ k' lo' n' c' w'
  simp only[q5X]at h;have hk:=hG _ _ (E5 h.1);rw[q6I h.2.1,q6I h.2.2.1,q6I h.2.2.2.1,q6I h.2.2.2.2];refine⟨⟨⟨λH v=>?_,trivial⟩,rfl,rfl,rfl,Iff.rfl⟩,.inr ⟨rfl,rfl⟩⟩;show(∃b c,β1 k.num=some (b,c)/\_)↔(∃b c,β2 k'.num=some (b,c)/\_);rw[hk]
 .rename_i k lo n w _ k' lo' n' w'
  simp only[q5X]at h;have hk:=hG _ _ (E5 h.1);rw[q6I h.2.1,q6I h.2.2.1,q6I h.2.2.2];refine⟨⟨⟨λH v=>?_,trivial⟩,rfl,rfl,rfl,Iff.rfl⟩,.inr ⟨rfl,rfl⟩⟩;show(∃b c,β1 k.num=some (b,c)/\_)↔(∃b c,β2 k'.num=some (b,c)/\_);rw[hk]
 .rename_i k _ k'
  have hk:=hG _ _ (E5 h);refine⟨⟨⟨λH v=>?_,trivial⟩,rfl,rfl,rfl,Iff.rfl⟩,.inr ⟨rfl,rfl⟩⟩;show(∃b c,β1 k.num=some (b,c)/\_)↔(∃b c,β2 k'.num=some (b,c)/\_);rw[hk]
 .exact⟨⟨⟨λ_ _=>Iff.rfl,trivial⟩,rfl,rfl,rfl,Iff.rfl⟩,.inr ⟨rfl,rfl⟩⟩
theorem PY{R:Rn}{β1 β2:Bm}(hG:Go2 R β1 β2): ∀{l r:List V},cqU R l r=true->ARels β1 β2 (cs D l) (cs D r)/\wds l=wds r/\(okL l↔okL r)
 |[],[],_=>⟨trivial,rfl,Iff.rfl⟩
 |[],_::_,h=>by cases h
 |_::_,[],h=>by cases h
 |a::l,b::r,h=>by
  have h: @Bool.rec (λ_=>Bool) false (cqU R l r) (cq1 R a b)=true:=h
  cases hb:cq1 R a b with
  |false=>rw[hb]at h;cases h
  |true=>
   rw[hb]at h;obtain⟨⟨h1,h2,h3,h4,h5⟩,_⟩:=PX (D:=D) hG hb;obtain⟨h6,h7,h8⟩:=PY (l:=l) (r:=r) hG h;refine⟨?_,?_,?_⟩
   .rw[vp,vp];exact h1.app h6
   .rw[zJ,zJ,h2,h7]
   .rw[jW,jW,h8,h3,h4,h5]
structure VRel (D:List Int) (β1 β2:Bm) (a b:V):Prop where
 cells:ARels β1 β2 (a.cells D) (b.cells D)
 cmp: ∀H v,(a.cmp D).sat β1 H v↔(b.cmp D).sat β2 H v
 size:a.size=b.size
 ok:a.okC↔b.okC
 na: ∃x y,a.av D=some (.c x)/\b.av D=some (.c y)/\x=a.cmp D/\y=b.cmp D
 ne:a≠ .und/\b≠ .und
 nt:(∀l,a≠ .tu l)/\ ∀l,b≠ .tu l
theorem q56{R:Rn}{β1 β2:Bm}(hG:Go2 R β1 β2){a b:V}(h:cq1 R a b=true):VRel D β1 β2 a b:=by
 obtain⟨⟨h1,h2,h3,h4,h5⟩,h6⟩:=PX (D:=D) hG h
 have hx: ∀x:V,x.un=true->x.size=x.wd/\(∃y,x.av D=some (.c y)/\y=x.cmp D)/\x≠ .und/\ ∀l,x≠ .tu l:=λx hx=>by
  cases x<;>first|(cases hx;done)|exact⟨rfl,⟨_,rfl,rfl⟩,by simp,by simp⟩
 obtain⟨a1,⟨x,a2,a3⟩,a4,a5⟩:=hx a h3;obtain⟨b1,⟨y,b2,b3⟩,b4,b5⟩:=hx b h4;refine⟨by rw[V.un_cells h3,V.un_cells h4];exact h1,?_,by rw[a1,b1,h2],by rw[V.un_okC h3,V.un_okC h4];exact h5,⟨x,y,a2,b2,a3,b3⟩,⟨a4,b4⟩,a5,b5⟩;rcases h6 with⟨e,h6⟩|⟨h6,h7⟩
 .subst e
  intro H v;cases a<;>first|(cases h3;done)|(cases h6;done)|exact⟨λ⟨arr,e,hs⟩=>⟨arr,e,(h1.sats H _).1 hs⟩,λ⟨arr,e,hs⟩=>⟨arr,e,(h1.sats H _).2 hs⟩⟩
 .intro H v
  rw[V.on_cmp h6,V.on_cmp h7];rw[V.on_c1 h6,V.on_c1 h7]at h1;exact h1.1 H v
theorem In{R:Rn}{β1 β2:Bm}(hG:Go2 R β1 β2){a b:V}(h:cqC R a b=true):VRel D β1 β2 a b:=by
 unfold cqC at h;split at h
 .split at h
  .rename_i w l _ w' l'
   simp only[q5X]at h;obtain⟨h1,h2⟩:=h;have h1:=q6I h1;subst h1;obtain⟨h3,h4,h5⟩:=PY (D:=D) hG h2;refine⟨h3,λH v=>?_,rfl,?_,⟨_,_,rfl,rfl,rfl,rfl⟩,⟨by simp,by simp⟩,by simp,by simp⟩
   .show(∃arr:Array Value,v= .agg arr/\Sats β1 H (cs D l) arr.toList)↔(∃arr:Array Value,v= .agg arr/\Sats β2 H (cs D l') arr.toList)
    constructor
    .rintro⟨arr,e,hs⟩;exact⟨arr,e,(h3.sats H _).1 hs⟩
    .rintro⟨arr,e,hs⟩;exact⟨arr,e,(h3.sats H _).2 hs⟩
   .show(w=wds l/\okL l)↔(w=wds l'/\okL l')
    rw[h4,h5]
  .cases h
 .exact q56 hG h
theorem BO{R:Rn}{β1 β2:Bm}(hG:Go2 R β1 β2): ∀{l r:List V},cqT R l r=true->ARels β1 β2 (flat D l) (flat D r)/\(∀H us,CmpSats β1 H (l.map (V.cmp D)) us↔CmpSats β2 H (r.map (V.cmp D)) us)/\(∀H us,AVs β1 H (l.map (qe D)) us↔AVs β2 H (r.map (qe D)) us)/\(∀es,okE es l↔okE es r)/\((∀x∈l,x.okC)↔ ∀x∈r,x.okC)/\l.length=r.length
 |[],[],_=>⟨trivial,λ_ us=>by cases us<;>exact Iff.rfl,λ_ us=>by cases us<;>exact Iff.rfl,λ_=>Iff.rfl,Iff.rfl,rfl⟩
 |[],_::_,h=>by cases h
 |_::_,[],h=>by cases h
 |a::l,b::r,h=>by
  have h: @Bool.rec (λ_=>Bool) false (cqT R l r) (cqC R a b)=true:=h
  cases hb:cqC R a b with
  |false=>rw[hb]at h;cases h
  |true=>
   rw[hb]at h;have hv:=In (D:=D) hG hb;obtain⟨h1,h2,h3,h4,h5,h6⟩:=BO (l:=l) (r:=r) hG h;obtain⟨x,y,e1,e2,e3,e4⟩:=hv.na;refine⟨?_,?_,?_,?_,?_,by rw[q6i,q6i,h6]⟩
   .have e5: ∀(x:V)(r:List V),flat D (x::r)=x.cells D++flat D r:=λx r=>by simp[flat]
    rw[e5,e5];exact hv.cells.app h1
   .intro H us
    cases us with
    |nil=>exact Iff.rfl
    |cons u us=>
     show((a.cmp D).sat β1 H u/\CmpSats β1 H (l.map (V.cmp D)) us)↔((b.cmp D).sat β2 H u/\CmpSats β2 H (r.map (V.cmp D)) us);rw[hv.cmp H u,h2 H us]
   .intro H us
    cases us with
    |nil=>exact Iff.rfl
    |cons u us=>
     show((qe D a).sat β1 H u/\AVs β1 H (l.map (qe D)) us)↔((qe D b).sat β2 H u/\AVs β2 H (r.map (qe D)) us);have e5:qe D a= .c (a.cmp D):=by unfold qe;rw[e1,e3];rfl
     have e6:qe D b= .c (b.cmp D):=by unfold qe;rw[e2,e4];rfl
     rw[h3 H us,e5,e6];exact and_congr (hv.cmp H u) Iff.rfl
   .intro es
    unfold okE;simp only[List.forall_mem_cons];have:=h4 es;unfold okE at this;rw[this,hv.ok,hv.size]
   .simp only[List.forall_mem_cons]
    rw[h5,hv.ok]
theorem Gp{R:Rn}{β1 β2:Bm}(hG:Go2 R β1 β2){a b:V}(h:cqV R a b=true):(∀H u,(qe D a).sat β1 H u↔(qe D b).sat β2 H u)/\(a.ok↔b.ok)/\a≠ .und/\b≠ .und:=by
 unfold cqV at h;split at h
 .split at h
  .rename_i l _ l'
   obtain⟨h1,h2,h3,h4,h5,h6⟩:=BO (D:=D) hG h;refine⟨λH u=>?_,h5,by simp,by simp⟩;show(∃arr:Array Value,u= .tuple arr/\CmpSats β1 H (l.map (V.cmp D)) arr.toList)↔(∃arr:Array Value,u= .tuple arr/\CmpSats β2 H (l'.map (V.cmp D)) arr.toList);constructor
   .rintro⟨arr,e,hs⟩;exact⟨arr,e,(h2 H _).1 hs⟩
   .rintro⟨arr,e,hs⟩;exact⟨arr,e,(h2 H _).2 hs⟩
  .cases h
 .have hv:=In (D:=D) hG h
  obtain⟨x,y,e1,e2,e3,e4⟩:=hv.na;have e5:qe D a= .c (a.cmp D):=by unfold qe;rw[e1,e3];rfl
  have e6:qe D b= .c (b.cmp D):=by unfold qe;rw[e2,e4];rfl
  have hok: ∀x:V,x≠ .und->(∀l,x≠ .tu l)->(x.ok↔x.okC):=λx h1 h2=>by
   cases x<;>first|exact Iff.rfl|exact absurd rfl h1|exact absurd rfl (h2 _)
  refine⟨λH u=>?_,?_,hv.ne.1,hv.ne.2⟩
  .rw[e5,e6];exact hv.cmp H u
  .rw[hok a hv.ne.1 hv.nt.1,hok b hv.ne.2 hv.nt.2];exact hv.ok
theorem Ay(l:List V):Sq.toL V.und (Sq.pushL .e 0 l) 0 l.length=l:=AP _ _
theorem DF(l:List V):Br (Sq.pushL .e 0 l) l.length:=by have:=Br.pushL (l:=l) (Br.e (α:=V));rwa [q79]at this
theorem q0d{x:BE}{es n:Nat}{q:Sq V}(h:KB.arr es n q=beB x):Br q n:=by
 obtain⟨k,es',l⟩:=x
 match k with
 |0=>
  have h:KB.arr es n q=(match(generalizing:=false) l with|[v]=>KB.bx v|_=> .bx .und):=h;split at h<;>cases h
 |1=>
  have h:KB.arr es n q= .arr es' l.length (Sq.pushL .e 0 l):=h;injection h with h1 h2 h3
  rw[h2,h3];exact DF l
 |k+2=>
  have h:KB.arr es n q= .gro es' l.length (Sq.pushL .e 0 l):=h;cases h
theorem q0e{x:BE}{es n:Nat}{q:Sq V}(h:KB.gro es n q=beB x):Br q n:=by
 obtain⟨k,es',l⟩:=x
 match k with
 |0=>
  have h:KB.gro es n q=(match(generalizing:=false) l with|[v]=>KB.bx v|_=> .bx .und):=h;split at h<;>cases h
 |1=>
  have h:KB.gro es n q= .arr es' l.length (Sq.pushL .e 0 l):=h;cases h
 |k+2=>
  have h:KB.gro es n q= .gro es' l.length (Sq.pushL .e 0 l):=h;injection h with h1 h2 h3
  rw[h2,h3];exact DF l
theorem DK{R:Rn}{β1 β2:Bm}(hG:Go2 R β1 β2){a:BE}{b:KB}(h:cqB R a b=true){k1 k2:Nat}(hk:β1 k1=β2 k2)(w:World)(H:Heap):((beB a).blk D).rep β1 w H k1↔(b.blk D).rep β2 w H k2:=by
 have hrig: ∀{cs cs':List Atom},ARels β1 β2 cs cs'->((Blk.rigid cs).rep β1 w H k1↔(Blk.rigid cs').rep β2 w H k2):=λ{cs cs'} hr=>by
  show(∃b c arr T,β1 k1=some (b,c)/\w.heap[b]?=some (.cells arr T (0,0))/\Sats β1 H cs arr.toList)↔(∃b c arr T,β2 k2=some (b,c)/\w.heap[b]?=some (.cells arr T (0,0))/\Sats β2 H cs' arr.toList);rw[hk];constructor
  .rintro⟨b,c,arr,T,h1,h2,h3⟩;exact⟨b,c,arr,T,h1,h2,(hr.sats H _).1 h3⟩
  .rintro⟨b,c,arr,T,h1,h2,h3⟩;exact⟨b,c,arr,T,h1,h2,(hr.sats H _).2 h3⟩
 .unfold cqB at h
  split at h
  .split at h
   .rename_i v _ u hl
    simp only[q5X]at h;have e:beB a= .bx u:=by unfold beB;rw[q6I h.1,hl];rfl
    rw[e];exact hrig (In (D:=D) hG h.2).cells
   .cases h
  .rename_i es n q
   simp only[q5X]at h;have e:beB a= .arr a.es a.l.length (Sq.pushL .e 0 a.l):=by unfold beB;rw[q6I h.1];rfl
   rw[e];show(Blk.rigid (flat D (Sq.toL .und (Sq.pushL .e 0 a.l) 0 a.l.length))).rep β1 w H k1↔(Blk.rigid (flat D (Sq.toL .und q 0 n))).rep β2 w H k2;rw[Ay];exact hrig (BO (D:=D) hG h.2.2).1
  .rename_i es n q
   simp only[q5X]at h;have e:beB a= .gro a.es a.l.length (Sq.pushL .e 0 a.l):=by unfold beB;rw[q6I h.1];rfl
   rw[e];show(groB a.es (flat D (Sq.toL .und (Sq.pushL .e 0 a.l) 0 a.l.length))).rep β1 w H k1↔(groB es (flat D (Sq.toL .und q 0 n))).rep β2 w H k2;rw[Ay,q6I h.2.1];have hr:=(BO (D:=D) hG h.2.2).1;rcases Hw (es:=es) hr.len with⟨e1,e2⟩|⟨e1,e2⟩
   .rw[e1,e2];exact hrig hr
   .rw[e1,e2]
    show((β1 k1=none/\flat D a.l=[])\/ ∃b c arr T,β1 k1=some (b,c)/\w.heap[b]?=some (.cells arr T (0,0))/\arr.size=c*es/\(flat D a.l).length<=arr.size/\Sats β1 H (flat D a.l) (arr.toList.take (flat D a.l).length))↔((β2 k2=none/\flat D (Sq.toL .und q 0 n)=[])\/ ∃b c arr T,β2 k2=some (b,c)/\w.heap[b]?=some (.cells arr T (0,0))/\arr.size=c*es/\(flat D (Sq.toL .und q 0 n)).length<=arr.size/\Sats β2 H (flat D (Sq.toL .und q 0 n)) (arr.toList.take (flat D (Sq.toL .und q 0 n)).length));have hn:flat D a.l=[]↔flat D (Sq.toL .und q 0 n)=[]:=by rw[<-List.length_eq_zero_iff,<-List.length_eq_zero_iff,hr.len]
    rw[hk,hn,hr.len];refine or_congr Iff.rfl ?_;constructor
    .rintro⟨b,c,arr,T,h1,h2,h3,h4,h5⟩;exact⟨b,c,arr,T,h1,h2,h3,h4,(hr.sats H _).1 h5⟩
    .rintro⟨b,c,arr,T,h1,h2,h3,h4,h5⟩;exact⟨b,c,arr,T,h1,h2,h3,h4,(hr.sats H _).2 h5⟩
  .cases h
theorem Uv{R:Rn}{a:BE}{b:KB}(h:cqB R a b=true):(b.ok->(beB a).ok)/\(∀x,b=beB x->(beB a).ok->b.ok):=by
 have hG:Go2 R (λ_=>none) (λ_=>none):=λ_ _ _=>rfl
 refine⟨λh2=>?_,λx hx h2=>?_⟩
 .unfold cqB at h
  split at h
  .split at h
   .rename_i v _ u hl
    simp only[q5X]at h;have e:beB a= .bx u:=by unfold beB;rw[q6I h.1,hl];rfl
    rw[e];exact(In (D:=[]) hG h.2).ok.2 h2
   .cases h
  .rename_i es n q
   simp only[q5X]at h;have e:beB a= .arr a.es a.l.length (Sq.pushL .e 0 a.l):=by unfold beB;rw[q6I h.1];rfl
   rw[e];refine⟨DF _,?_⟩;rw[Ay,q6I h.2.1];exact((BO (D:=[]) hG h.2.2).2.2.2.1 es).2 h2.2
  .rename_i es n q
   simp only[q5X]at h;have e:beB a= .gro a.es a.l.length (Sq.pushL .e 0 a.l):=by unfold beB;rw[q6I h.1];rfl
   rw[e];refine⟨DF _,?_⟩;rw[Ay,q6I h.2.1];exact((BO (D:=[]) hG h.2.2).2.2.2.1 es).2 h2.2
  .cases h
 .unfold cqB at h
  split at h
  .split at h
   .rename_i v _ u hl
    simp only[q5X]at h;have e:beB a= .bx u:=by unfold beB;rw[q6I h.1,hl];rfl
    rw[e]at h2;exact(In (D:=[]) hG h.2).ok.1 h2
   .cases h
  .rename_i es n q
   simp only[q5X]at h;have e:beB a= .arr a.es a.l.length (Sq.pushL .e 0 a.l):=by unfold beB;rw[q6I h.1];rfl
   rw[e]at h2;have h2:okE a.es (Sq.toL V.und (Sq.pushL .e 0 a.l) 0 a.l.length):=h2.2;rw[Ay,q6I h.2.1]at h2;exact⟨q0d hx,((BO (D:=[]) hG h.2.2).2.2.2.1 es).1 h2⟩
  .rename_i es n q
   simp only[q5X]at h;have e:beB a= .gro a.es a.l.length (Sq.pushL .e 0 a.l):=by unfold beB;rw[q6I h.1];rfl
   rw[e]at h2;have h2:okE a.es (Sq.toL V.und (Sq.pushL .e 0 a.l) 0 a.l.length):=h2.2;rw[Ay,q6I h.2.1]at h2;exact⟨q0e hx,((BO (D:=[]) hG h.2.2).2.2.2.1 es).1 h2⟩
  .cases h
theorem Cu{R' R:Rn}{m:qU}: ∀{bs:List (Key×BE)},hsB R' R m bs=true-> ∀p∈bs,∃k b,rlk R p.1=some k/\mget m k=some b/\cqB R' p.2 b=true
 |[],_,p,hp=>by cases hp
 |q::bs,h,p,hp=>by
  have h:(match(generalizing:=false) rlk R q.1 with
   |some k=>(match(generalizing:=false) mget m k with|some b=> @Bool.rec (λ_=>Bool) false (hsB R' R m bs) (cqB R' q.2 b)|none=>false)
   |none=>false)=true:=h
  split at h
  .rename_i k hk
   split at h
   .rename_i b hb
    cases hc:cqB R' q.2 b with
    |false=>rw[hc]at h;cases h
    |true=>
     rw[hc]at h;rcases q6p.1 hp with rfl|hp
     .exact⟨k,b,hk,hb,hc⟩
     .exact Cu h p hp
   .cases h
  .cases h
theorem Y5{R:Rn}{bs:List (Key×BE)}{a b:Key}(h:rlk (vm R bs) a=some b): ∃p∈bs,p.1=a:=by
 have:=E7 h;unfold vm at this;obtain⟨p,hp,e⟩:=List.mem_map.1 this;cases e;exact⟨p,hp,rfl⟩
theorem idR{bs:List (Key×BE)}{a b:Key}(h:rlk (bs.map λp=>(p.1,p.1)) a=some b):a=b/\ ∃p∈bs,p.1=a:=by
 obtain⟨p,hp,e⟩:=List.mem_map.1 (E7 h);cases e;exact⟨rfl,p,hp,rfl⟩
theorem JO{bs:List (Key×BE)}{p:Key×BE}(hp:p∈bs):rlk (bs.map λp=>(p.1,p.1)) p.1=some p.1:=by
 induction bs with
 |nil=>cases hp
 |cons q bs ih=>
  rw[q6n,CN];by_cases e:q.1=p.1
  .rw[if_pos e,e]
  .rw[if_neg e]
   rcases q6p.1 hp with rfl|hp
   .exact absurd rfl e
   .exact ih hp
theorem Wn{a b:Nat}{R:Rn}(h:rngB a b R=true): ∀p∈R,a<=p.2.num/\p.2.num<b:=by
 induction R with
 |nil=>intro p hp;cases hp
 |cons q R ih=>
  have h: @Bool.rec (λ_=>Bool) false (rngB a b R) (Nat.ble a q.2.num&&Nat.blt q.2.num b)=true:=h
  cases hc:(Nat.ble a q.2.num&&Nat.blt q.2.num b)with
  |false=>rw[hc]at h;cases h
  |true=>
   rw[hc]at h;simp only[q5X]at hc;intro p hp;rcases q6p.1 hp with rfl|hp
   .exact⟨q6K hc.1,q6K hc.2⟩
   .exact ih h p hp
theorem NE{R:Rn}{m:qU}{q:Key}: ∀{ns:List (Key×BE)},(∀p∈ns,rnK R p.1≠q)->mget (putB R ns m) q=mget m q
 |[],_=>rfl
 |p::ns,h=>by
  show mget (mset (putB R ns m) (rnK R p.1) (some (rnB R p.2))) q=_;rw[jO,if_neg (h p q6r)];exact NE λp hp=>h p (q6q _ hp)
theorem z8{R:Rn}{m:qU}{q:Key}{b:KB}: ∀{ns:List (Key×BE)},mget (putB R ns m) q=some b->(∃p∈ns,rnK R p.1=q/\b=rnB R p.2)\/mget m q=some b
 |[],h=> .inr h
 |p::ns,h=>by
  have h:mget (mset (putB R ns m) (rnK R p.1) (some (rnB R p.2))) q=some b:=h;rw[jO]at h;split at h
  .rename_i e;cases h;exact .inl ⟨p,q6r,e,rfl⟩
  .rcases z8 h with⟨p',h1,h2⟩|h1
   .exact .inl ⟨p',q6q _ h1,h2⟩
   .exact .inr h1
theorem EQ{q:Key}{b:KB}: ∀{bs:List (Key×BE)},mget (memE bs) q=some b-> ∃p∈bs,p.1=q/\b=beB p.2
 |[],h=>by
  have h:mget mnew q=some b:=h;rw[wF]at h;cases h
 |p::bs,h=>by
  have h:mget (mset (memE bs) p.1 (some (beB p.2))) q=some b:=h;rw[jO]at h;split at h
  .rename_i e;cases h;exact⟨p,q6r,e,rfl⟩
  .obtain⟨p',h1,h2⟩:=EQ h
   exact⟨p',q6q _ h1,h2⟩
open Classical in
def pulR(R:Rn)(β:Bm):Bm:=λn=>if h: ∃p:Key×Key,p.1.num=n/\rlk R p.1=some p.2 then β (Classical.choose h).2.num else none
theorem wS(R:Rn)(β:Bm):Go2 R (pulR R β) β:=λa b h=>by
 have hx: ∃p:Key×Key,p.1.num=a.num/\rlk R p.1=some p.2:=⟨(a,b),rfl,h⟩;unfold pulR;rw[dif_pos hx];have h1:=Classical.choose_spec hx;have e:=Key.num_inj h1.1;have h2:=h1.2;rw[e,h]at h2;injection h2 with h2
 rw[<-h2]
theorem Lc{R:Rn}{β:Bm}{n:Nat}(h: ∀a b,rlk R a=some b->a.num≠n):pulR R β n=none:=by
 unfold pulR;rw[dif_neg]
 rintro⟨p,h1,h2⟩
 exact h p.1 p.2 h2 h1
open Classical in
def pusR(R:Rn)(βe β:Bm):Bm:=λn=>if h: ∃p:Key×Key,p.2.num=n/\rlk R p.1=some p.2 then βe (Classical.choose h).1.num else β n
theorem QH{R:Rn}(hd:dsnB R=true)(βe β:Bm):Go2 R βe (pusR R βe β):=λa b h=>by
 have hx: ∃p:Key×Key,p.2.num=b.num/\rlk R p.1=some p.2:=⟨(a,b),rfl,h⟩;unfold pusR;rw[dif_pos hx];have h1:=Classical.choose_spec hx;have e:=Key.num_inj h1.1;have h2:=h1.2;rw[e]at h2;rw[Eu hd h2 h]
theorem ND{R:Rn}{βe β:Bm}{n:Nat}(h: ∀a b,rlk R a=some b->b.num≠n):pusR R βe β n=β n:=by
 unfold pusR;rw[dif_neg]
 rintro⟨p,h1,h2⟩
 exact h p.1 p.2 h2 h1
theorem recB{α:Type}{x:α}{b:Bool}{y:Option α}(h: @Bool.rec (λ_=>Option α) none y b=some x):b=true/\y=some x:=by
 cases b with
 |false=>cases h
 |true=>exact⟨rfl,h⟩
theorem WX{e:DE}{vs:List V}{m:qU}{nx:Key}{dn:Nat}{sc:List (Nat×Nat)}{v:V}{s':S}(h:useD e vs ⟨m,nx,dn,sc⟩=some (v,s')):
  ∃R1 Rk nx',s'=⟨putB (vm R1 e.bs++Rk) e.ns m,nx',dn,sc⟩/\cqT (vm R1 e.bs++Rk) e.xs vs=true/\hsB (vm R1 e.bs++Rk) (vm R1 e.bs) m e.bs=true/\dsnB (vm R1 e.bs)=true/\
   hsB (vm R1 e.bs++Rk) Rk (putB (vm R1 e.bs++Rk) e.ns m) e.ns=true/\dsnB Rk=true/\rngB nx.num nx'.num Rk=true/\nx.num<=nx'.num/\cqV (vm R1 e.bs++Rk) e.v v=true:=by
 have h: @Bool.rec (λ_=>Option (V×S)) none (match(generalizing:=false) bndR m e.bs (wkT e.xs vs [])with
  |some R1=>(match(generalizing:=false) nwK e.ns nx with
   |some (Rk,nx')=> @Bool.rec (λ_=>Option (V×S)) none (some (rnV (vm R1 e.bs++Rk) e.v,S.mk (putB (vm R1 e.bs++Rk) e.ns m) nx' dn sc))
     (cqT (vm R1 e.bs++Rk) e.xs vs&&(hsB (vm R1 e.bs++Rk) (vm R1 e.bs) m e.bs&&(dsnB (vm R1 e.bs)&&(hsB (vm R1 e.bs++Rk) Rk (putB (vm R1 e.bs++Rk) e.ns m) e.ns&&(dsnB Rk&&(rngB nx.num nx'.num Rk&&(Nat.ble nx.num nx'.num&&cqV (vm R1 e.bs++Rk) e.v (rnV (vm R1 e.bs++Rk) e.v))))))))
   |none=>none)
  |none=>none) (cqT (wkT e.xs vs []) e.xs vs)=some (v,s'):=h
 obtain⟨_,h⟩:=recB h;split at h
 .rename_i R1 _
  split at h
  .rename_i Rk nx' _
   obtain⟨h1,h2⟩:=recB h;injection h2 with h2
   injection h2 with h2 h3
   simp only[q5X]at h1;obtain⟨c1,c2,c3,c4,c5,c6,c7,c8⟩:=h1;subst h2;subst h3
   exact⟨R1,Rk,nx',rfl,c1,c2,c3,c4,c5,c6,q6K c7,c8⟩
  .cases h
 .cases h
theorem UE{e:DE}{v1:V}{s1:S}(h:fitD e v1 s1=true): ∃T1,(λT=>cqV T e.v v1=true/\hsB T (e.bs.map λp=>(p.1,p.1)) s1.m e.bs=true/\hsB T (vm T1 e.ns) s1.m e.ns=true/\dsnB T=true) ((e.bs.map λp=>(p.1,p.1))++vm T1 e.ns):=by
 obtain⟨m1,nx1,dn1,sc1⟩:=s1
 have h:(match(generalizing:=false) bndR m1 e.ns (wkV e.v v1 (e.bs.map λp=>(p.1,p.1)))with
  |some T1=>cqV ((e.bs.map λp=>(p.1,p.1))++vm T1 e.ns) e.v v1&&(hsB ((e.bs.map λp=>(p.1,p.1))++vm T1 e.ns) (e.bs.map λp=>(p.1,p.1)) m1 e.bs&&(hsB ((e.bs.map λp=>(p.1,p.1))++vm T1 e.ns) (vm T1 e.ns) m1 e.ns&&dsnB ((e.bs.map λp=>(p.1,p.1))++vm T1 e.ns)))
  |none=>false)=true:=h
 split at h
 .rename_i T1 _
  simp only[q5X]at h;exact⟨T1,h.1,h.2.1,h.2.2.1,h.2.2.2⟩
 .cases h
set_option maxHeartbeats 4000000 in
theorem q0s{f:FuncId}{e:DE}{vs:List V}{s:S}{v:V}{s':S}{v1:V}{s1:S}(hrun:CallOk D P f e.xs (stD e) v1 s1)(hfit:fitD e v1 s1=true)(hns: ∀p∈e.ns,∀q∈e.bs,q.1≠p.1)
  (hlt: ∀p∈e.bs,p.1.num<(nx0 e.bs).num)(huse:useD e vs s=some (v,s'))(hs:SOK D s):CallOk D P f vs s v s':=by
 obtain⟨m,nx,dn,sc⟩:=s;obtain⟨R1,Rk,nx',rfl,c1,c2,c3,c4,c5,c6,c7,c8⟩:=WX huse;obtain⟨T1,f1,f2,f3,f4⟩:=UE hfit;generalize hRb:vm R1 e.bs=Rb at c1 c2 c3 c4 c8;have hRbd: ∀a b,rlk Rb a=some b-> ∃p∈e.bs,p.1=a:=λa b h=>Y5 (R:=R1) (by rw[hRb];exact h)
 generalize hN:vm T1 e.ns=N at f1 f2 f3 f4;have c2:=Cu c2;have c4:=Cu c4;have c6:=Wn c6;have f2:=Cu f2;have f3:=Cu f3;have hTb: ∀p∈e.bs,rlk ((e.bs.map λp=>(p.1,p.1))++N) p.1=some p.1:=λp hp=>by rw[E6,JO hp]
 have hT0n: ∀p∈e.ns,rlk (e.bs.map λp=>(p.1,p.1)) p.1=none:=λp hp=>by
  cases h:rlk (e.bs.map λp=>(p.1,p.1)) p.1 with
  |none=>rfl
  |some b=>
   obtain⟨_,q,hq,e1⟩:=idR h;exact absurd e1 (hns p hp q hq)
 have hRbn: ∀p∈e.ns,rlk Rb p.1=none:=λp hp=>by
  cases h:rlk Rb p.1 with
  |none=>rfl
  |some b=>
   obtain⟨q,hq,e1⟩:=hRbd _ _ h;exact absurd e1 (hns p hp q hq)
 --the new keys
 have hnew: ∀a b,rlk Rk a=some b->nx.num<=b.num/\b.num<nx'.num:=λa b h=>c6 (a,b) (E7 h)
 have hren: ∀p∈e.ns,rlk Rk p.1=some (rnK (Rb++Rk) p.1):=λp hp=>by
  obtain⟨k,b,h1,_,_⟩:=c4 p hp;have e1:rlk (Rb++Rk) p.1=some k:=by rw[E6,hRbn p hp];exact h1
  rw[h1,show rnK (Rb++Rk) p.1=(rlk (Rb++Rk) p.1).getD p.1 from rfl,e1];rfl
 have hold: ∀q,mget m q≠none-> ∀p∈e.ns,rnK (Rb++Rk) p.1≠q:=λq hq p hp e1=>by
  have h1:=(hnew _ _ (hren p hp)).1;have h2:q.num<nx.num:=hs.lt q hq;rw[e1]at h1;omega
 have hget: ∀q,mget m q≠none->mget (putB (Rb++Rk) e.ns m) q=mget m q:=λq hq=>NE (hold q hq)
 --the blocks that are read
 have hRbm: ∀a b,rlk Rb a=some b-> ∃p∈e.bs,p.1=a/\ ∃x,mget m b=some x/\cqB (Rb++Rk) p.2 x=true:=λa b h=>by
  obtain⟨p,hp,e1⟩:=hRbd a b h;obtain⟨k,x,h1,h2,h3⟩:=c2 p hp;rw[e1,h]at h1;injection h1 with h1
  subst h1;exact⟨p,hp,e1,x,h2,h3⟩
 have hsm: ∀β:Bm,(∀k,nx.num<=k->k<nx'.num->β k=none)->Go2 (Rb++Rk) (pulR Rb β) β:=λβ hdom a b h=>by
  rw[E6]at h
  cases h1:rlk Rb a with
  |some b'=>
   rw[h1]at h;have h:some b'=some b:=h;injection h with h
   subst h;exact wS Rb β a b' h1
  |none=>
   rw[h1]at h;have h:rlk Rk a=some b:=h;rw[hdom b.num (hnew a b h).1 (hnew a b h).2]
   exact Lc λa' b' h2 e1=>by
    have:=Key.num_inj e1;subst this;rw[h1]at h2;cases h2
 have hv:=Gp (D:=D) (R:=(e.bs.map λp=>(p.1,p.1))++N) (β1:=λ_=>none) (β2:=λ_=>none) (λ_ _ _=>rfl) f1;have hv2:=Gp (D:=D) (R:=Rb++Rk) (β1:=λ_=>none) (β2:=λ_=>none) (λ_ _ _=>rfl) c8;refine⟨hrun.callable,⟨λq b hq=>?_,λq hq=>?_,hs.agr⟩,c7,hv2.2.1.1 (hv.2.1.2 hrun.ok),hv2.2.2.2,λq hq=>?_,λus w H β hargs hM hon hdom=>?_⟩
 .rcases z8 hq with⟨p,hp,e1,e2⟩|h1
  .obtain⟨k,b',h1,h2,h3⟩:=c4 p hp
   have e3:k=q:=by
    have:=hren p hp;rw[h1]at this;injection this with this
    rw[this,e1]
   subst e3;rw[hq]at h2;injection h2 with h2
   subst h2;obtain⟨k1,b1,g1,g2,g3⟩:=f3 p hp;have h4:=(Uv g3).1 (hrun.sok.ok k1 b1 g2);exact(Uv h3).2 _ e2 h4
  .exact hs.ok q b h1
 .cases hb:mget (putB (Rb++Rk) e.ns m) q with
  |none=>exact absurd hb hq
  |some b=>
   rcases z8 hb with⟨p,hp,e1,_⟩|h1
   .have:=(hnew _ _ (hren p hp)).2
    rw[e1]at this;exact this
   .exact q6Q (hs.lt q (by show mget m q≠none;rw[h1];simp)) c7
 .cases hb:mget (putB (Rb++Rk) e.ns m) q with
  |none=>exact absurd hb hq
  |some b=>
   rcases z8 hb with⟨p,hp,e1,_⟩|h1
   .have:=(hnew _ _ (hren p hp)).1
    rw[e1]at this;exact .inr this
   .exact .inl (by show mget m q≠none;rw[h1];simp)
 have hdom: ∀k,nx.num<=k->k<nx'.num->β k=none:=hdom;have hG:=hsm β hdom
 have hsmall: ∀q b,mget (memE e.bs) q=some b-> ∃p∈e.bs,p.1=q/\b=beB p.2/\ ∃k x,rlk Rb q=some k/\mget m k=some x/\cqB (Rb++Rk) p.2 x=true:=λq b hq=>by
  obtain⟨p,hp,e1,e2⟩:=EQ hq;obtain⟨k,x,h1,h2,h3⟩:=c2 p hp;exact⟨p,hp,e1,e2,k,x,by rw[<-e1];exact h1,h2,h3⟩
 refine Calls.mono (hrun.calls us w H (pulR Rb β) (((BO (D:=D) hG c1).2.2.1 H us).2 hargs) ⟨λq b hq=>?_,λq b hq bb c h0=>?_,λq q' b b' hq hq' hne bb c c' h0 h1=>?_⟩ hon λn h2 h3=>?_) ?_
 .obtain⟨p,hp,e1,rfl,k,x,h1,h2,h3⟩:=hsmall q b hq
  exact(DK (D:=D) hG h3 (wS Rb β q k h1) w H).2 (hM.rep k x h2)
 .obtain⟨p,hp,e1,_,k,x,h1,h2,h3⟩:=hsmall q b hq
  rw[wS Rb β q k h1]at h0;exact hM.own k x h2 bb c h0
 .obtain⟨p,hp,e1,_,k,x,g1,g2,g3⟩:=hsmall q b hq
  obtain⟨p',hp',e1',_,k',x',g1',g2',g3'⟩:=hsmall q' b' hq';rw[wS Rb β q k g1]at h0;rw[wS Rb β q' k' g1']at h1;exact hM.inj k k' x x' g2 g2' (λe2=>hne (by subst e2;exact Eu c3 g1 g1')) bb c c' h0 h1
 .refine Lc λa b h4 e1=>?_
  obtain⟨p,hp,e2⟩:=hRbd a b h4;have h5:=hlt p hp;have h2:(nx0 e.bs).num<=n:=h2;rw[e2]at h5;omega
 rintro e' w' ⟨u,H',β',rfl,hst,hsat,hM'⟩
 --the places of the entry's blocks
 have hβ': ∀p∈e.bs,∀k,rlk Rb p.1=some k->β' p.1.num=β k.num:=λp hp k hk=>by
  rw[hst.beta p.1.num (.inl (hlt p hp))];exact wS Rb β _ _ hk
 have hT:=wS ((e.bs.map λp=>(p.1,p.1))++N) β'
 have hGe:Go2 (Rb++Rk) (pulR ((e.bs.map λp=>(p.1,p.1))++N) β') (pusR Rk (pulR ((e.bs.map λp=>(p.1,p.1))++N) β') β):=λa b h=>by
  rw[E6]at h
  cases h1:rlk Rb a with
  |some b'=>
   rw[h1]at h;have h:some b'=some b:=h;injection h with h
   subst h;obtain⟨p,hp,e1,x,h2,_⟩:=hRbm a b' h1;subst e1;rw[hT _ _ (hTb p hp),hβ' p hp b' h1]
   exact(ND λa2 b2 h3 e2=>by
    have h4:=(hnew a2 b2 h3).1;have h5:b'.num<nx.num:=hs.lt b' (by show mget m b'≠none;rw[h2];simp)
    omega).symm
  |none=>
   rw[h1]at h;exact QH c5 _ _ a b h
 generalize hβe:pulR ((e.bs.map λp=>(p.1,p.1))++N) β'=βe at hT hGe
 have hkeep: ∀b',b'<w.heap.size->(∀k x,mget m k=some x-> ∀c,β k.num=some (b',c)-> ∀a,rlk Rb a≠some k)->w'.heap[b']?=w.heap[b']?:=λb' hb h0=>hst.keep b' hb λq hq c h1=>by
  cases hq2:mget (memE e.bs) q with
  |none=>exact hq hq2
  |some b2=>
   obtain⟨p,hp,e1,_,k,x,g1,g2,g3⟩:=hsmall q b2 hq2;rw[wS Rb β q k g1]at h1;exact h0 k x g2 c h1 q g1
 have hsz:=hst.size
 --the new blocks
 have hnb: ∀p∈e.ns,∃K bM,rlk ((e.bs.map λp=>(p.1,p.1))++N) p.1=some K/\mget s1.m K=some bM/\cqB ((e.bs.map λp=>(p.1,p.1))++N) p.2 bM=true/\βe p.1.num=β' K.num/\ ∀bb c,β' K.num=some (bb,c)->H' bb=none/\bb<w'.heap.size/\w.heap.size<=bb:=λp hp=>by
  obtain⟨K,bM,g1,g2,g3⟩:=f3 p hp;have g4:rlk ((e.bs.map λp=>(p.1,p.1))++N) p.1=some K:=by rw[E6,hT0n p hp];exact g1
  refine⟨K,bM,g4,g2,g3,hT _ _ g4,λbb c h0=>?_⟩;obtain⟨h2,h3⟩:=hM'.own K bM g2 bb c h0;refine⟨h2,h3,?_⟩;rcases hst.own K bM g2 bb c h0 with h4|⟨q,hq,c0,h4⟩
  .exact h4
  .cases hq2:mget (memE e.bs) q with
   |none=>exact absurd hq2 hq
   |some b2=>
    obtain⟨p2,hp2,e1,_,k,x,l1,l2,l3⟩:=hsmall q b2 hq2;subst e1;obtain⟨k2,b3,g5,g6,g7⟩:=f2 p2 hp2
    have e3:p2.1=k2:=by
     have:=JO hp2;rw[g5]at this;injection this with this
     exact this.symm
    subst e3;rw[wS Rb β _ k l1,<-hβ' p2 hp2 k l1]at h4
    have hne:K≠p2.1:=λe4=>by
     subst e4;exact hns p hp p2 hp2 (Eu f4 (hTb p2 hp2) g4)
    exact absurd h4 (hM'.inj K p2.1 bM b3 g2 g6 hne bb c c0 h0)
 have hpu: ∀p∈e.ns,pusR Rk βe β (rnK (Rb++Rk) p.1).num=βe p.1.num:=λp hp=>(QH c5 βe β p.1 _ (hren p hp)).symm
 have hpo: ∀n,(n<nx.num\/nx'.num<=n)->pusR Rk βe β n=β n:=λn hn=>ND λa b h e1=>by
  have:=hnew a b h;omega
 have hq0: ∀q,mget m q≠none->pusR Rk βe β q.num=β q.num:=λq hq=>hpo _ (.inl (hs.lt q hq))
 have hHold: ∀q b2,mget m q=some b2-> ∀bb c,β q.num=some (bb,c)->H' bb=none/\bb<w.heap.size:=λq b2 hq bb c h0=>by
  obtain⟨h2,h3⟩:=hM.own q b2 hq bb c h0;refine⟨?_,h3⟩
  cases hH:H' bb with
  |none=>rfl
  |some cs0=>
   rcases hst.hnew bb (by rw[hH];simp)with h4|h4
   .exact absurd h2 h4
   .omega
 refine⟨u,H',pusR Rk βe β,rfl,⟨hst.os,hst.tape,hst.output,hsz,λb' hb h0=>hkeep b' hb λk x hk c h1 a _=>h0 k (by rw[hk];simp) c h1,hst.hle,hst.hnew,hst.hon,hpo,λq b2 hq bb c h0=>?_⟩,?_,⟨λq b2 hq=>?_,λq b2 hq bb c h0=>?_,λq q' b2 b3 hq hq' hne bb c c' h0 h1=>?_⟩⟩
 .rcases z8 hq with⟨p,hp,e1,_⟩|h1
  .obtain⟨K,bM,g1,g2,g3,g4,g5⟩:=hnb p hp
   rw[<-e1,hpu p hp,g4]at h0;exact .inl (g5 bb c h0).2.2
  .have h1':mget m q≠none:=by rw[h1];simp
   rw[hq0 q h1']at h0;exact .inr ⟨q,h1',c,h0⟩
 .exact((Gp (D:=D) hGe c8).1 H' u).1 (((Gp (D:=D) hT f1).1 H' u).2 hsat)
 .rcases z8 hq with⟨p,hp,e1,_⟩|h1
  .obtain⟨K,bM,g1,g2,g3,g4,g5⟩:=hnb p hp
   obtain⟨k,b',l1,l2,l3⟩:=c4 p hp
   have e3:k=q:=by
    have:=hren p hp;rw[l1]at this;injection this with this
    rw[this,e1]
   subst e3;rw[hq]at l2;injection l2 with l2
   subst l2;have h6:=(DK (D:=D) hT g3 g4 w' H').2 (hM'.rep K bM g2);exact(DK (D:=D) hGe l3 (k1:=p.1.num) (k2:=k.num) (by rw[<-e1];exact(hpu p hp).symm) w' H').1 h6
  .have h1':mget m q≠none:=by rw[h1];simp
   by_cases hin: ∃a,rlk Rb a=some q
   .obtain⟨a,ha⟩:=hin
    obtain⟨p,hp,e1,x,l1,l2⟩:=hRbm a q ha;subst e1;rw[h1]at l1;injection l1 with l1
    subst l1;obtain⟨k2,b3,g5,g6,g7⟩:=f2 p hp
    have e3:p.1=k2:=by
     have:=JO hp;rw[g5]at this;injection this with this
     exact this.symm
    subst e3;have hTp:βe p.1.num=β' p.1.num:=hT _ _ (hTb p hp);have h6:=(DK (D:=D) hT g7 hTp w' H').2 (hM'.rep _ b3 g6);exact(DK (D:=D) hGe l2 (k1:=p.1.num) (k2:=q.num) (by rw[hq0 q h1',hTp];exact hβ' p hp q ha) w' H').1 h6
   .have hr:=hM.rep q b2 h1
    refine Blk.rep_congr hr hst.hle (λn hn=>hpo n ?_) λbb c h0=>hkeep bb (hM.own q b2 h1 bb c h0).2 λk x hk c1 h3 a ha=>?_
    .by_cases hr2:n<nx.num\/nx'.num<=n
     .exact hr2
     .exfalso
      rcases hn with hn|hn
      .have:=hs.lt q h1'
       subst hn;exact hr2 (.inl this)
      .exact(DC (D:=D) b2 0).2.1 β w H q.num n hr hn (hdom n (by omega) (by omega))
    .have hkq:k≠q:=λe4=>hin ⟨a,by rw[<-e4];exact ha⟩
     exact absurd h3 (hM.inj q k b2 x h1 hk (Ne.symm hkq) bb c c1 h0)
 .rcases z8 hq with⟨p,hp,e1,_⟩|h1
  .obtain⟨K,bM,g1,g2,g3,g4,g5⟩:=hnb p hp
   rw[<-e1,hpu p hp,g4]at h0;exact⟨(g5 bb c h0).1,(g5 bb c h0).2.1⟩
  .rw[hq0 q (by rw[h1];simp)]at h0
   obtain⟨h2,h3⟩:=hHold q b2 h1 bb c h0;exact⟨h2,q6Q h3 hsz⟩
 .rcases z8 hq with⟨p,hp,e1,_⟩|g1
  .obtain⟨K,bM,k1,k2,k3,k4,k5⟩:=hnb p hp
   rw[<-e1,hpu p hp,k4]at h0;rcases z8 hq' with⟨p',hp',e1',_⟩|g1'
   .obtain⟨K',bM',k1',k2',k3',k4',k5'⟩:=hnb p' hp'
    rw[<-e1',hpu p' hp',k4']at h1;refine hM'.inj K K' bM bM' k2 k2' (λe5=>?_) bb c c' h0 h1;subst e5;exact hne (by rw[<-e1,<-e1',Eu f4 k1 k1'])
   .rw[hq0 q' (by rw[g1'];simp)]at h1
    have:=(hHold q' b3 g1' bb c' h1).2;have:=(k5 bb c h0).2.2;omega
  .rw[hq0 q (by rw[g1];simp)]at h0
   rcases z8 hq' with⟨p',hp',e1',_⟩|g1'
   .obtain⟨K',bM',k1',k2',k3',k4',k5'⟩:=hnb p' hp'
    rw[<-e1',hpu p' hp',k4']at h1;have:=(hHold q b2 g1 bb c h0).2;have:=(k5' bb c' h1).2.2;omega
   .rw[hq0 q' (by rw[g1'];simp)]at h1
    exact hM.inj q q' b2 b3 g1 g1' hne bb c c' h0 h1
theorem q36(v:V)(h:v.un=true):okCB v=ok1B v:=by cases v<;>first|rfl|cases h
theorem IT{v:V}(h:okCB v=true):v.okC/\v.ok/\v≠ .und:=by
 have h1: ∀x:V,ok1B x=true->x.un=true/\x.ok1:=λx hx=>by
  cases x with
  |qq s n d=>exact Jy (v:= .qq s n d) hx
  |uu v=>
   refine⟨rfl,?_⟩;have hx:uuO v=true:=hx;unfold uuO at hx;split at hx<;>first|rfl|cases hx
  |st l=>
   refine⟨rfl,λb hb=>?_⟩;have:=List.all_eq_true.1 (show l.all (λb=>Nat.blt b 256)=true from hx) b hb;exact q6K this
  |_=>first|(cases hx;done)|exact⟨rfl,trivial⟩
 cases v with
 |ag w l=>
  have h:(Nat.beq w (wds l)&&l.all ok1B)=true:=h;rw[q5X]at h;have:(V.ag w l).okC:=⟨q6I h.1,λx hx=>h1 x (List.all_eq_true.1 h.2 x hx)⟩;exact⟨this,this,by simp⟩
 |und=>cases h
 |tu l=>cases h
 |_=>
  rw[q36 _ rfl]at h;exact⟨(h1 _ h).2,(h1 _ h).2,by simp⟩
theorem q1b{b:BE}(h:okBB b=true):(beB b).ok:=by
 obtain⟨k,es,l⟩:=b
 match k with
 |0=>
  have h:(match(generalizing:=false) l with|[v]=>okCB v|_=>false)=true:=h;split at h
  .exact(IT h).1
  .cases h
 |1=>
  have h:(l.all λv=>okCB v&&Nat.beq v.size es)=true:=h;refine⟨DF l,?_⟩;rw[Ay];intro x hx;have:=List.all_eq_true.1 h x hx;rw[q5X]at this;exact⟨(IT this.1).1,q6I this.2⟩
 |k+2=>
  have h:(l.all λv=>okCB v&&Nat.beq v.size es)=true:=h;refine⟨DF l,?_⟩;rw[Ay];intro x hx;have:=List.all_eq_true.1 h x hx;rw[q5X]at this;exact⟨(IT this.1).1,q6I this.2⟩
theorem WE{e:DE}(h:sndB e=true):(∀x∈e.xs,x.ok/\x≠ .und)/\SOK D (stD e)/\(∀p∈e.bs,p.1.num<(nx0 e.bs).num)/\ ∀p∈e.ns,∀q∈e.bs,q.1≠p.1:=by
 unfold sndB at h;simp only[q5X]at h;obtain⟨h1,h2,h3⟩:=h
 have h2: ∀p∈e.bs,okBB p.2=true/\p.1.num<(nx0 e.bs).num:=λp hp=>by
  have:=List.all_eq_true.1 h2 p hp;rw[q5X]at this;exact⟨this.1,q6K this.2⟩
 refine⟨λx hx=>(IT (List.all_eq_true.1 h1 x hx)).2,⟨λk b hb=>?_,λk hk=>?_,λj p h=>?_⟩,λp hp=>(h2 p hp).2,λp hp q hq e1=>?_⟩
 .obtain⟨p,hp,_,rfl⟩:=EQ hb
  exact q1b (h2 p hp).1
 .cases hb:mget (memE e.bs) k with
  |none=>exact absurd hb hk
  |some b=>
   obtain⟨p,hp,rfl,_⟩:=EQ hb;exact(h2 p hp).2
 .have h:([]:List (Nat×Nat))[j]?=some p:=h
  simp at h
 .have:=L6 (List.all_eq_true.1 h3 p hp) (q.1,q.1) (List.mem_map.2 ⟨q,hq,rfl⟩)
  exact this e1
theorem DZ{f:FuncId}{L:List DE}(hc: ∀e∈L,(∃v1 s1,CallOk D P f e.xs (stD e) v1 s1/\fitD e v1 s1=true)/\sndB e=true):qI D P f (λvs s=>IG vs s L):=by
 intro vs s v s' hv hvs hsk
 induction L with
 |nil=>cases hv
 |cons e r ih=>
  have hv:(match(generalizing:=false) useD e vs s with|some (v,s')=>RO.ok v s'|none=>IG vs s r)=RO.ok v s':=hv;split at hv
  .rename_i v2 s2 hu
   injection hv with h1 h2
   subst h1;subst h2
   obtain⟨⟨v1,s1,h1,h2⟩,h3⟩:=hc e q6r;obtain⟨_,_,h4,h5⟩:=WE (D:=D) h3;exact q0s h1 h2 h5 h4 hu hsk
  .exact ih (λe he=>hc e (q6q _ he)) hv
theorem Xl{L:List (List DE)}: ∀{h:Nat}{e:DE},e∈bktD L h-> ∃B∈L,e∈B:=by
 induction L with
 |nil=>intro h e he;cases he
 |cons B r ih=>
  intro h e he
  cases h with
  |zero=>exact⟨B,q6r,he⟩
  |succ h=>
   obtain⟨B',h1,h2⟩:=ih (h:=h) he;exact⟨B',q6q _ h1,h2⟩
theorem E0{f:FuncId}{n:Nat}{L:List (List DE)}(hc: ∀B∈L,∀e∈B,(∃v1 s1,CallOk D P f e.xs (stD e) v1 s1/\fitD e v1 s1=true)/\sndB e=true):qI D P f (qJ (.memoH n L)):=by
 intro vs s v s' hv hvs hsk;have hv:IG vs s (bktD L (Nat.mod (hshD vs s) n))= .ok v s':=hv;refine DZ (L:=bktD L (Nat.mod (hshD vs s) n)) (λe he=>?_) vs s v s' hv hvs hsk;obtain⟨B,h1,h2⟩:=Xl he;exact hc B h1 e h2
end
end
noncomputable section
def stE:S:=⟨mnew,⟨.d0,.d0,.d0,.d0⟩,0,[]⟩
def okB(r:RO):Bool:= @RO.rec (λ_=>Bool) (λv _=>match v with| .bb b=>b|_=>false) (λ_=>false) (λ_=>false) r
theorem Nm{r:RO}(h:okB r=true): ∃s',r= .ok (.bb true) s':=by
 cases r with
 |no t=>cases h
 |need n=>cases h
 |ok v s'=>
  cases v with
  |bb b=>
   have h:b=true:=h;subst h;exact⟨s',rfl⟩
  |_=>cases h
def locL:List Nat:=[0,0,0,0xb0c30c3ffc7fffffffffdff8fffffd80000,0,36043364507632,0,0,0,16256,1048384,0,1048384,0x1ffffffffffffffffffffbffffff7fffeffffffffffdf783fffffdfffffd8000ffffbeff7bdefc00000100,0,2095072,133988096,0x3fef83ffffe1bffbffe18000,134368,0x3ffef00c0ffffdefffbc03fc00,952,562948946772480,56,268435328,130816,67108320,0,0,0,0,0,0x10000001feeff7feff77fef77f77f76000,1965792,0,0,0,1048032,2096768,56,0xffffff007ffbffffff7ffec00,0,68719345600,4363685723008,0xfffbffdfffffffffffefffdfef84000,0x1fffffe1fffbfff84000,0x3ffffffff0e1800,0x7ffff860fefe3ffffffc0c1ffe1ffff600000,532668864,0x3fff7c3ef0bfff0000,0x7ffffff861c000,4258425990912,8184,0x1fffff87fffef87fffc30e1f0000,2078960,120,0,67552,0xfbe7fbff07c0,24,24,0,0,0,0,0,0,0xffffff007dffbdb80,0,0,0xfffffff780,0,0,4177648,0xffffc0003efdfff7fe00,0x1fffffc01ffdffffffefffbffffc000,8998402633234304,0,1048288,134209280,32243136,0x1fffff7fbfe0c1c00,524032,0x7fffffffff7fdff0f000,0x1fbf7fffbefd800,32736,64224128,2097024,8589901248,68719460128,2089920,0x3ffffffffffffffdff800,0x3fffffeffffffef00,267939840,17178787840,56,500170368,0x1fdfffe3ffff8000,0x3fefff7fffffc00,0xe030060fe1c2ff80000300ffc1ffc3fff0fbff88df85e0c000000,0xf830ffe0ff840,0xff87fdffffbe00,33421376,9004999216956416,0x37fbdc3f7ffe1000,65376,2095168,24,268311808,4088,24,4190688,0x7fffbffff0e1fe0000,496,520128,0x40003f8003ffffffefc384000,0xffefe1c200,0xffff0c387fff787f861c3f1f00000,16634476416,268311808,4088,268311808,0,0,0,0,67552,0x118c7a77fffff0ff818307fbdff800,0x18181ff7dffffee00,0,0x1fffdffff807fb600,0xfffffdffeff700,8388064,3669632,68719443808,536346336,2040,274810666752,137438951936,56,0,0,70367670403072,0x1f773bffde73f7dfffff70000,8387456,494792448,0,0,0,0,0,0,4177648,0x3fc3e0000fffff000,1834496,16352,0,0,8556086240,4064,432,457792,232,0xe000000000000ffffffe801ff1ffff800,0x17fffffe00fef8bffdf0e000,0,35184372056064,0,0,29797368192,6475006464,0,2040,2096640,496,562949699780608,33422336,248,24,268311808,8184,1016,268311808,0,496,32704,65520,16352,34090770432,0x7fbffff7bfffdc00,444288,272728293376,8589868800,0xf830ffc1ffde0,34091269056,0x37fdfffeff7ff7fde00,30769112145536,0xfffff7fffffefec0,0,0,0,0,0,0,0,248,2092992,8064,0x87d0c300c7bdd77800,0,281279872,0,0,0,70368744172544,8160,4294966272,8387456,0,0,0,0,0,0,0,0,0,16775168,35183302532032,137438951424,224,0xfffffdffffffc000ef1bffeffff7efde00000,248,0,2096640,0,0xffffffffffff37fffffe00000,67370496,0x1033a1f7f999dfffffe0007ffe0000,0,0,0,0,0,0,19311425600,0x3ffffdffffff000ee37ffbfff7df780000,549751818240,32256,268311808,0,0x7fbffff7bfffdc00,33521504,68215103488,0xfffffdffffffc000ef1bffeffff7efde00000,444288,9007164899179520,0,56,0xffd81fee1ffb8780,0,261040,15040769536,4064,0,0,0,0,0,0,0,0,0,0,0,268434928,9007164899179520,0,0,0,0,0,0,0,33537768,0,6442442752,0x400000c30c3e00,0x200183ffbebeff7ef0000,0,562947806981888,0,0,0,0,0,0,0,0,9007164899179520,0,134152096,9007164899179520,0,0,0,0,0,0,0,56,0,0,0,0,0,0,0,0,0,0,4296014848]
def locT(f:FuncId):Nat:=locL.getD f 0
theorem Eb(D:List Int):SOK D stE:=by
 refine⟨λk b h=>?_,λk h=>?_,λj p h=>?_⟩
 .rw[show stE.m=mnew from rfl,wF]at h;cases h
 .rw[show stE.m=mnew from rfl,wF]at h;exact absurd rfl h
 .have h:([]:List (Nat×Nat))[j]?=some p:=h
  simp at h
def okV(v:V)(r:RO):Bool:= @RO.rec (λ_=>Bool) (λu _=>bqV u v) (λ_=>false) (λ_=>false) r
def Sb(f:FuncId)(L:List (List V×V)):Bool:= @List.rec (List V×V) (λ_=>Bool) true (λp _ ih=> @Bool.rec (λ_=>Bool) false ih (okV p.2 ((zS Go.Proofs.Tryz.prog (prims tbA) locT 60).call f (jj p.1).c0 p.1.length stE)&&(p.1.all BF&&CL p.2&&p.1.all argB))) L
def qi(n:Nat):V:= .qq false n 1
def qm(n d:Nat):V:= .qq true n d
def pt(a b c:V):V:= .ag 9 [a,b,c]
def ni(n:Nat):V:= .nn .i64 n
def nS:V:= .uu (.slice none 0 0)
def pal:List V:=[.qq false 0 1,.qq false 1 1,.qq false 4 1,.qq false 3 1,.qq true 1 1,.qq false 2 1,.qq false 5 1,.qq false 3 2,.qq false 4 3,.qq false 8 3,.qq false 3 4,.qq false 9 4,.qq false 8 5,.qq false 6 5,.qq false 12 5,.qq false 9 5,.qq false 12 1,.qq true 3 1,.qq true 4 1,.qq true 2 1,.qq false 5 2,.qq false 1 2,.qq false 7 3,.qq false 1 3,.qq false 11 3,.qq false 5 3,.qq false 7 4,.qq true 1 4,.qq false 13 4,.qq false 5 4,.qq false 13 5,.qq false 3 5,.qq false 11 5,.qq false 1 5,.qq false 17 5,.qq false 7 5,.qq false 14 5,.qq false 4 5,.qq true 3 2,.qq true 8 3,.qq true 4 3,.qq true 3 4,.qq true 9 4,.qq true 12 5,.qq true 8 5,.qq true 6 5,.qq true 9 5,.qq false 6 1,.qq false 8 1,.qq false 9 1,.qq false 36 5,.qq false 24 5]
def nthK(l:List V):Nat->(V->DE)->DE:= @List.rec V (λ_=>Nat->(V->DE)->DE) (λ_ k=>k .und) (λp _ ih i k=> @Nat.rec (λ_=>DE) (k p) (λj _=>ih j k) i) l
abbrev FnD(n:Nat):Type:= @Nat.rec (λ_=>Type) DE (λ_ T=>V->T) n
def aD(n:Nat):FnD n->Nat->DE:= @Nat.rec (λn=>FnD n->Nat->DE) (λf _=>f) (λ_ ih f c=>nthK pal (Nat.mod c 64) λv=>ih (f v) (Nat.div c 64)) n
def okD(e:DE)(r:RO):Bool:= @RO.rec (λ_=>Bool) (λv s=>fitD e v s) (λ_=>false) (λ_=>false) r
def qd(tb:List (Nat×Pt))(f:FuncId)(L:List DE):Bool:= @List.rec DE (λ_=>Bool) true (λe _ ih=> @Bool.rec (λ_=>Bool) false ih (okD e ((zS Go.Proofs.Tryz.prog (prims tb) locT 60).call f (jj e.xs).c0 e.xs.length (stD e))&&sndB e)) L
def mmo0:List (List V×V):=[([.qq false 0 1],.st [48]),([.qq false 3 1],.st [51]),([.qq false 1 1],.st [49]),([.qq false 4 1],.st [52]),([.qq false 2 1],.st [50]),([.qq true 1 1],.st [45,49]),([.qq false 3 2],.st [51,47,50]),([.qq false 4 3],.st [52,47,51]),([.qq false 8 3],.st [56,47,51]),([.qq false 3 4],.st [51,47,52]),([.qq false 9 4],.st [57,47,52]),([.qq false 8 5],.st [56,47,53]),([.qq false 6 5],.st [54,47,53]),([.qq false 12 5],.st [49,50,47,53]),([.qq false 9 5],.st [57,47,53])]
def j6:List (Nat×Pt):=(151,.memo mmo0)::tbA
end
noncomputable section
def Mf:List DE:=[⟨[.gs (q9 0) 0 6 1],[(q9 0,⟨2,1,[.gs (q9 1) 0 1 1,.gs (q9 2) 0 1 1,.gs (q9 3) 0 1 1,.gs (q9 4) 0 1 1,.gs (q9 5) 0 1 1,.gs (q9 6) 0 1 1]⟩),(q9 1,⟨2,1,[.gs (q9 7) 0 4 1]⟩),(q9 2,⟨2,1,[.gs (q9 8) 0 4 1]⟩),(q9 3,⟨2,1,[.gs (q9 9) 0 4 1]⟩),(q9 4,⟨2,1,[.gs (q9 10) 0 4 1]⟩),(q9 5,⟨2,1,[.gs (q9 11) 0 4 1]⟩),(q9 6,⟨2,1,[.gs (q9 12) 0 4 1]⟩),(q9 7,⟨2,1,[ni 0,ni 1,ni 5,ni 4]⟩),(q9 8,⟨2,1,[ni 1,ni 2,ni 6,ni 5]⟩),(q9 9,⟨2,1,[ni 2,ni 3,ni 7,ni 6]⟩),(q9 10,⟨2,1,[ni 3,ni 0,ni 4,ni 7]⟩),(q9 11,⟨2,1,[ni 3,ni 2,ni 1,ni 0]⟩),(q9 12,⟨2,1,[ni 4,ni 5,ni 6,ni 7]⟩)],nS,[]⟩,⟨[.gs (q9 0) 0 7 1],[(q9 0,⟨2,1,[.gs (q9 1) 0 1 1,.gs (q9 2) 0 1 1,.gs (q9 3) 0 1 1,.gs (q9 4) 0 1 1,.gs (q9 5) 0 1 1,.gs (q9 6) 0 1 1,.gs (q9 7) 0 1 1]⟩),(q9 1,⟨2,1,[.gs (q9 8) 0 4 1]⟩),(q9 2,⟨2,1,[.gs (q9 9) 0 4 1]⟩),(q9 3,⟨2,1,[.gs (q9 10) 0 4 1]⟩),(q9 4,⟨2,1,[.gs (q9 11) 0 4 1]⟩),(q9 5,⟨2,1,[.gs (q9 12) 0 4 1]⟩),(q9 6,⟨2,1,[.gs (q9 13) 0 5 1]⟩),(q9 7,⟨2,1,[.gs (q9 14) 0 5 1]⟩),(q9 8,⟨2,1,[ni 0,ni 1,ni 6,ni 5]⟩),(q9 9,⟨2,1,[ni 1,ni 2,ni 7,ni 6]⟩),(q9 10,⟨2,1,[ni 2,ni 3,ni 8,ni 7]⟩),(q9 11,⟨2,1,[ni 3,ni 4,ni 9,ni 8]⟩),(q9 12,⟨2,1,[ni 4,ni 0,ni 5,ni 9]⟩),(q9 13,⟨2,1,[ni 4,ni 3,ni 2,ni 1,ni 0]⟩),(q9 14,⟨2,1,[ni 5,ni 6,ni 7,ni 8,ni 9]⟩)],nS,[]⟩,⟨[.gs (q9 0) 0 7 1],[(q9 0,⟨2,1,[.gs (q9 1) 0 1 1,.gs (q9 2) 0 1 1,.gs (q9 3) 0 1 1,.gs (q9 4) 0 1 1,.gs (q9 5) 0 1 1,.gs (q9 6) 0 1 1,.gs (q9 7) 0 1 1]⟩),(q9 1,⟨2,1,[.gs (q9 8) 0 5 1]⟩),(q9 2,⟨2,1,[.gs (q9 9) 0 4 1]⟩),(q9 3,⟨2,1,[.gs (q9 10) 0 4 1]⟩),(q9 4,⟨2,1,[.gs (q9 11) 0 4 1]⟩),(q9 5,⟨2,1,[.gs (q9 12) 0 4 1]⟩),(q9 6,⟨2,1,[.gs (q9 13) 0 4 1]⟩),(q9 7,⟨2,1,[.gs (q9 14) 0 5 1]⟩),(q9 8,⟨2,1,[ni 0,ni 2,ni 8,ni 6,ni 4]⟩),(q9 9,⟨2,1,[ni 0,ni 4,ni 5,ni 1]⟩),(q9 10,⟨2,1,[ni 4,ni 6,ni 7,ni 5]⟩),(q9 11,⟨2,1,[ni 6,ni 8,ni 9,ni 7]⟩),(q9 12,⟨2,1,[ni 2,ni 3,ni 9,ni 8]⟩),(q9 13,⟨2,1,[ni 0,ni 1,ni 3,ni 2]⟩),(q9 14,⟨2,1,[ni 1,ni 5,ni 7,ni 9,ni 3]⟩)],nS,[]⟩,⟨[.gs (q9 0) 0 6 1],[(q9 0,⟨2,1,[.gs (q9 1) 0 1 1,.gs (q9 2) 0 1 1,.gs (q9 3) 0 1 1,.gs (q9 4) 0 1 1,.gs (q9 5) 0 1 1,.gs (q9 6) 0 1 1]⟩),(q9 1,⟨2,1,[.gs (q9 7) 0 4 1]⟩),(q9 2,⟨2,1,[.gs (q9 8) 0 4 1]⟩),(q9 3,⟨2,1,[.gs (q9 9) 0 4 1]⟩),(q9 4,⟨2,1,[.gs (q9 10) 0 4 1]⟩),(q9 5,⟨2,1,[.gs (q9 11) 0 4 1]⟩),(q9 6,⟨2,1,[.gs (q9 12) 0 4 1]⟩),(q9 7,⟨2,1,[ni 0,ni 2,ni 6,ni 4]⟩),(q9 8,⟨2,1,[ni 0,ni 4,ni 5,ni 1]⟩),(q9 9,⟨2,1,[ni 4,ni 6,ni 7,ni 5]⟩),(q9 10,⟨2,1,[ni 2,ni 3,ni 7,ni 6]⟩),(q9 11,⟨2,1,[ni 0,ni 1,ni 3,ni 2]⟩),(q9 12,⟨2,1,[ni 1,ni 5,ni 7,ni 3]⟩)],nS,[]⟩,⟨[.gs (q9 0) 0 6 1],[(q9 0,⟨2,1,[.gs (q9 1) 0 1 1,.gs (q9 2) 0 1 1,.gs (q9 3) 0 1 1,.gs (q9 4) 0 1 1,.gs (q9 5) 0 1 1,.gs (q9 6) 0 1 1]⟩),(q9 1,⟨2,1,[.gs (q9 7) 0 4 1]⟩),(q9 2,⟨2,1,[.gs (q9 8) 0 4 1]⟩),(q9 3,⟨2,1,[.gs (q9 9) 0 4 1]⟩),(q9 4,⟨2,1,[.gs (q9 10) 0 4 1]⟩),(q9 5,⟨2,1,[.gs (q9 11) 0 4 1]⟩),(q9 6,⟨2,1,[.gs (q9 12) 0 4 1]⟩),(q9 7,⟨2,1,[ni 0,ni 1,ni 3,ni 2]⟩),(q9 8,⟨2,1,[ni 0,ni 2,ni 6,ni 4]⟩),(q9 9,⟨2,1,[ni 0,ni 4,ni 5,ni 1]⟩),(q9 10,⟨2,1,[ni 1,ni 5,ni 7,ni 3]⟩),(q9 11,⟨2,1,[ni 2,ni 3,ni 7,ni 6]⟩),(q9 12,⟨2,1,[ni 4,ni 6,ni 7,ni 5]⟩)],nS,[]⟩,⟨[.gs (q9 0) 0 7 1],[(q9 0,⟨2,1,[.gs (q9 1) 0 1 1,.gs (q9 2) 0 1 1,.gs (q9 3) 0 1 1,.gs (q9 4) 0 1 1,.gs (q9 5) 0 1 1,.gs (q9 6) 0 1 1,.gs (q9 7) 0 1 1]⟩),(q9 1,⟨2,1,[.gs (q9 8) 0 5 1]⟩),(q9 2,⟨2,1,[.gs (q9 9) 0 4 1]⟩),(q9 3,⟨2,1,[.gs (q9 10) 0 4 1]⟩),(q9 4,⟨2,1,[.gs (q9 11) 0 4 1]⟩),(q9 5,⟨2,1,[.gs (q9 12) 0 4 1]⟩),(q9 6,⟨2,1,[.gs (q9 13) 0 4 1]⟩),(q9 7,⟨2,1,[.gs (q9 14) 0 5 1]⟩),(q9 8,⟨2,1,[ni 0,ni 2,ni 4,ni 8,ni 6]⟩),(q9 9,⟨2,1,[ni 0,ni 6,ni 7,ni 1]⟩),(q9 10,⟨2,1,[ni 6,ni 8,ni 9,ni 7]⟩),(q9 11,⟨2,1,[ni 4,ni 5,ni 9,ni 8]⟩),(q9 12,⟨2,1,[ni 2,ni 3,ni 5,ni 4]⟩),(q9 13,⟨2,1,[ni 0,ni 1,ni 3,ni 2]⟩),(q9 14,⟨2,1,[ni 1,ni 7,ni 9,ni 5,ni 3]⟩)],nS,[]⟩]
def qn(x0 x1 x2 x3 x4 x5 x6 x7:V):DE:=⟨[.gs (q9 0) 0 1 1],[(q9 0,⟨2,1,[.gs (q9 1) 0 4 9]⟩),(q9 1,⟨2,9,[pt x0 x1 (qi 0),pt x2 x3 (qi 0),pt x4 x5 (qi 0),pt x6 x7 (qi 0)]⟩)],.tu [.gs (q9 128) 0 1 1,ni 0],[(q9 128,⟨2,1,[.zz .i64 0]⟩)]⟩
def jD(x0 x1 x2 x3:V):DE:=⟨[.sl (q9 0) 0 1 1 1],[(q9 0,⟨1,1,[.gs (q9 1) 0 5 9]⟩),(q9 1,⟨2,9,[pt (qi 0) (qi 0) (qi 0),pt x0 (qi 0) (qi 0),pt (qi 4) x1 (qi 0),pt x2 (qi 3) (qi 0),pt (qi 0) x3 (qi 0)]⟩)],.tu [.gs (q9 128) 0 1 1,ni 0],[(q9 128,⟨2,1,[.zz .i64 0]⟩)]⟩
def qk(x0 x1 x2 x3 x4 x5 x6 x7:V):DE:=⟨[.gs (q9 0) 0 1 1],[(q9 0,⟨2,1,[.gs (q9 1) 0 5 9]⟩),(q9 1,⟨2,9,[pt x0 (qi 0) (qi 0),pt x1 x2 (qi 0),pt x3 x4 (qi 0),pt x5 x6 (qi 0),pt (qi 0) x7 (qi 0)]⟩)],.tu [.gs (q9 128) 0 1 1,ni 0],[(q9 128,⟨2,1,[.zz .i64 0]⟩)]⟩
def Tt:List DE:=[aD 8 qn 4399204159488,aD 8 qn 4742751199237,aD 8 qn 0xc00c1001000,aD 8 qk 8941082509504,aD 4 jD 807106,aD 8 qk 0xc3143080080,aD 4 jD 794690,aD 8 qn 4467890073601,aD 8 qk 0xc3081080080,aD 4 jD 794625,aD 8 qk 0xc3080080040,aD 8 qn 8868051288192,aD 8 qn 4466782765120,aD 8 qk 137473294529,aD 8 qk 8945377476800,aD 4 jD 794638,aD 8 qk 0xc3080080380,aD 8 qk 137476448451]
def Tu:List DE:=[aD 4 jD 1835202,aD 8 qk 30992534864000,aD 8 qn 4399254503424,aD 8 qk 8936904982720,aD 8 qn 8798259647040,aD 8 qn 0xc11411400c0,aD 4 jD 819394,aD 8 qk 0xc3203080080,aD 8 qn 8798259384832,aD 8 qn 65986820575232,aD 4 jD 790722,aD 8 qk 0xc3043080080,aD 8 qn 4399355191296,aD 8 qk 962106237123]
def Tv:List DE:=[aD 8 qk 22127705850048,aD 8 qn 4399237722112,aD 8 qk 137474351299,aD 8 qn 48447247876800,aD 8 qn 61641387410304,aD 8 qk 61710124449984,aD 8 qn 5429962747919,aD 8 qn 52845294387968]
def Tw:List DE:=[aD 4 jD 794629,aD 8 qk 0xc3080080140,aD 8 qn 0xc10410400c0,aD 8 qk 52914031427776,aD 4 jD 795458,aD 8 qk 0xc308d080080,aD 4 jD 3932354,aD 8 qk 66176906952832,aD 8 qn 5155084840971,aD 8 qk 8936770764992,aD 4 jD 835778,aD 8 qk 0xc3303080080]
def Tx:List DE:=[aD 8 qn 4399170596864,aD 8 qn 22058968809792,aD 8 qn 4467873292289,aD 8 qk 68753039555,aD 4 jD 2883778,aD 8 qk 137473294539,aD 8 qk 48584720908416,aD 8 qn 0xc00c12c12c0,aD 4 jD 794636,aD 8 qn 4399321628672,aD 8 qk 0xc3080080300,aD 8 qk 137475924163,aD 8 qk 8936955314368,aD 8 qk 8936753988416,aD 8 qn 0xc00c1341340]
def Tz:List DE:=[aD 8 qn 4399153815552,aD 8 qn 2148020227,aD 8 qn 8870199296128,aD 8 qk 137473294535,aD 8 qn 5086365364234,aD 8 qk 137475137731,aD 8 qk 39719891894464,aD 8 qn 0xc00c1041040,aD 8 qk 0xc20020c00c0,aD 4 jD 795330,aD 8 qk 0xc308b080080,aD 8 qn 0xc13413400c0]
def TA:List DE:=[⟨[.sl (q9 0) 0 1 1 1],[(q9 0,⟨1,1,[.sl (q9 1) 0 4 4 9]⟩),(q9 1,⟨1,9,[pt (qi 0) (qi 0) (qi 0),pt (qi 4) (qi 0) (qi 0),pt (qi 4) (qi 3) (qi 0),pt (qi 0) (qi 3) (qi 0)]⟩)],.tu [.gs (q9 128) 0 1 1,ni 0],[(q9 128,⟨2,1,[.zz .i64 0]⟩)]⟩,aD 8 qn 0xc00c2002000,aD 8 qn 21995618045952,aD 8 qn 0xc11c11c00c0,aD 8 qn 30793858551808,aD 8 qn 4948909629448,aD 8 qk 8944303734976,aD 4 jD 794633,aD 8 qk 0xc3080080240,aD 8 qk 8938935025856,aD 8 qk 8936753987648,aD 8 qn 0xc13c13c00c0,aD 8 qn 66039433921472,aD 4 jD 794627,aD 8 qk 0xc30800800c0,aD 8 qk 137473294538]
def TB:List DE:=[aD 8 qn 8798257287168,aD 8 qn 4880206934023,aD 8 qk 8936837873856,aD 8 qn 8798258598208,aD 4 jD 794632,aD 8 qk 549789376707,aD 8 qk 0xc3080080200,aD 8 qk 8934640058560,aD 8 qn 39651154854464,aD 8 qk 137473294533,aD 4 jD 794946,aD 8 qk 0xc3085080080,aD 8 qn 35253108343296,aD 8 qn 5223787536396,aD 8 qn 8865903280256,aD 8 qn 0xc12812800c0,aD 8 qn 44049201365632,aD 8 qn 0xc00c1281280,aD 8 qk 137473343683]
def TC:List DE:=[aD 8 qn 0xc10010000c0,aD 8 qk 137472778435,aD 8 qn 39592099057664,aD 8 qn 48390339563520,aD 8 qk 8936888205504,aD 8 qn 43991219310592,aD 4 jD 795586,aD 8 qn 4399371972608,aD 8 qk 0xc308f080080]
def TD:List DE:=[aD 8 qk 35321845383360,aD 8 qk 8936753987904,aD 8 qn 5017629106185,aD 8 qk 137473327299,aD 8 qn 35192978804736,aD 4 jD 262338,aD 8 qk 4604255797376,aD 8 qn 61587700322304,aD 8 qk 8936753988224,aD 8 qn 57188580069376]
def Pf:List DE:=[aD 8 qn 0xc00c11c11c0,aD 8 qk 618508853443,aD 8 qk 137473827011,aD 8 qn 4399304847360,aD 8 qn 5361226489870,aD 8 qn 52789459816448,aD 4 jD 3408066,aD 8 qn 57243340899136,aD 8 qk 57380813930624]
def Pg:List DE:=[aD 8 qk 343630946499,aD 8 qk 8936753988032,aD 8 qn 8874495312000,aD 8 qn 4399288066048,aD 8 qn 4399271284736,aD 8 qk 824667283651,aD 8 qn 5292523794445,aD 8 qk 137473351875,aD 8 qn 8798260958080,aD 8 qk 137473294543,aD 8 qk 8949672444096,aD 8 qn 8798260433664]
def Ph:List DE:=[aD 8 qn 8864829276288,aD 8 qn 8798290849792,aD 8 qn 30855061832128,aD 4 jD 1310914,aD 8 qk 22196441841792,aD 4 jD 798914,aD 8 qk 0xc30c3080080,aD 8 qn 8798258073792,aD 8 qn 0xc12c12c00c0,aD 8 qn 4742767980549,aD 8 qn 0xc00c13c13c0,aD 8 qn 4605312245763,aD 8 qk 137473298627,aD 8 qk 137473294541]
def Pi:List DE:=[aD 8 qk 137473315011,aD 4 jD 823490,aD 8 qk 137473331395,aD 8 qk 0xc3243080080,aD 8 qn 0xc00c1141140,aD 8 qk 8936988868800,aD 8 qk 8936753988544,aD 8 qk 137475399875]
def Pj:List DE:=[aD 4 jD 795074,aD 8 qk 0xc3087080080,aD 4 jD 795266,aD 8 qk 0xc308a080080,aD 8 qk 137473306819,aD 8 qk 8936804319424,aD 8 qk 8936753988288,aD 8 qk 8947524960448,aD 8 qn 8879865331840]
def Pk:List DE:=[aD 8 qn 4399137034240,aD 8 qk 4535519805632,aD 8 qn 8873421308032,aD 8 qn 4399338409984,aD 4 jD 843970,aD 8 qk 0xc3383080080,aD 8 qk 206191993027,aD 8 qn 8798257549376,aD 4 jD 2621634,aD 8 qk 44186674397312,aD 8 qn 8877717323904]
def b0_1:List (List DE):=[Tt,Tu,Tv,Tw,Tx,Tz,TA,TB,TC,TD,Pf,Pg,Ph,Pi,Pj,Pk]
def WJ(x0 x1 x2 x3:V):DE:=⟨[.gs (q9 0) 0 1 1,ni 2,ni 1],[(q9 0,⟨2,1,[.gs (q9 1) 0 4 9]⟩),(q9 1,⟨2,9,[pt (qi 0) x0 (qi 0),pt (qi 0) (qi 0) x1,pt (qi 0) x2 (qi 1),pt (qi 0) (qi 3) x3]⟩)],.tu [.sl (q9 128) 0 1 1 1,ni 0],[(q9 128,⟨1,1,[.zz .i64 0]⟩)]⟩
def jE(x0 x1 x2 x3:V):DE:=⟨[.gs (q9 0) 0 1 1,ni 1,ni 0],[(q9 0,⟨2,1,[.gs (q9 1) 0 5 9]⟩),(q9 1,⟨2,9,[pt (qi 4) (qi 0) (qi 0),pt x0 (qi 0) (qi 0),pt (qi 0) x1 (qi 0),pt x2 (qi 3) (qi 0),pt (qi 4) x3 (qi 0)]⟩)],.tu [.sl (q9 128) 0 1 1 1,ni 0],[(q9 128,⟨1,1,[.zz .i64 0]⟩)]⟩
def CP(x0:V):DE:=⟨[.gs (q9 0) 0 1 1,ni 0,ni 2],[(q9 0,⟨2,1,[.gs (q9 1) 0 6 9]⟩),(q9 1,⟨2,9,[pt x0 (qi 0) (qi 1),pt (qi 0) (qi 0) (qi 1),pt (qi 0) (qi 0) (qi 0),pt x0 (qi 0) (qi 0),pt (qi 4) (qi 0) (qi 0),pt (qi 4) (qi 0) (qi 1)]⟩)],.tu [.sl (q9 128) 0 1 1 1,ni 0],[(q9 128,⟨1,1,[.zz .i64 0]⟩)]⟩
def jF(x0 x1 x2 x3:V):DE:=⟨[.gs (q9 0) 0 1 1,ni 0,ni 1],[(q9 0,⟨2,1,[.gs (q9 1) 0 5 9]⟩),(q9 1,⟨2,9,[pt (qi 4) (qi 3) (qi 1),pt x0 (qi 3) (qi 1),pt (qi 0) x1 (qi 1),pt x2 (qi 0) (qi 1),pt (qi 4) x3 (qi 1)]⟩)],.tu [.sl (q9 128) 0 1 1 1,ni 0],[(q9 128,⟨1,1,[.zz .i64 0]⟩)]⟩
def WK(x0 x1 x2 x3:V):DE:=⟨[.gs (q9 0) 0 1 1,ni 2,ni 0],[(q9 0,⟨2,1,[.gs (q9 1) 0 4 9]⟩),(q9 1,⟨2,9,[pt x0 (qi 3) (qi 0),pt (qi 0) (qi 3) x1,pt x2 (qi 3) (qi 1),pt (qi 4) (qi 3) x3]⟩)],.tu [.sl (q9 128) 0 1 1 1,ni 0],[(q9 128,⟨1,1,[.zz .i64 0]⟩)]⟩
def WL(x0 x1 x2 x3:V):DE:=⟨[.gs (q9 0) 0 1 1,ni 1,ni 2],[(q9 0,⟨2,1,[.gs (q9 1) 0 4 9]⟩),(q9 1,⟨2,9,[pt (qi 4) x0 x1,pt (qi 4) x2 x1,pt (qi 4) x2 x3,pt (qi 4) x0 x3]⟩)],.tu [.sl (q9 128) 0 1 1 1,ni 0],[(q9 128,⟨1,1,[.zz .i64 0]⟩)]⟩
def WM(x0 x1 x2 x3:V):DE:=⟨[.gs (q9 0) 0 1 1,ni 0,ni 2],[(q9 0,⟨2,1,[.gs (q9 1) 0 4 9]⟩),(q9 1,⟨2,9,[pt x0 (qi 0) x1,pt x2 (qi 0) x1,pt x2 (qi 0) x3,pt x0 (qi 0) x3]⟩)],.tu [.sl (q9 128) 0 1 1 1,ni 0],[(q9 128,⟨1,1,[.zz .i64 0]⟩)]⟩
def CQ(x0:V):DE:=⟨[.gs (q9 0) 0 1 1,ni 1,ni 2],[(q9 0,⟨2,1,[.gs (q9 1) 0 6 9]⟩),(q9 1,⟨2,9,[pt (qi 4) x0 (qi 1),pt (qi 4) (qi 0) (qi 1),pt (qi 4) (qi 0) (qi 0),pt (qi 4) x0 (qi 0),pt (qi 4) (qi 3) (qi 0),pt (qi 4) (qi 3) (qi 1)]⟩)],.tu [.sl (q9 128) 0 1 1 1,ni 0],[(q9 128,⟨1,1,[.zz .i64 0]⟩)]⟩
def CR(x0:V):DE:=⟨[.gs (q9 0) 0 1 1,ni 2,ni 0],[(q9 0,⟨2,1,[.gs (q9 1) 0 6 9]⟩),(q9 1,⟨2,9,[pt x0 (qi 3) (qi 0),pt (qi 0) (qi 3) (qi 0),pt (qi 0) (qi 3) (qi 1),pt x0 (qi 3) (qi 1),pt (qi 4) (qi 3) (qi 1),pt (qi 4) (qi 3) (qi 0)]⟩)],.tu [.sl (q9 128) 0 1 1 1,ni 0],[(q9 128,⟨1,1,[.zz .i64 0]⟩)]⟩
def CS(x0:V):DE:=⟨[.gs (q9 0) 0 1 1,ni 2,ni 1],[(q9 0,⟨2,1,[.gs (q9 1) 0 6 9]⟩),(q9 1,⟨2,9,[pt (qi 0) x0 (qi 0),pt (qi 0) (qi 0) (qi 0),pt (qi 0) (qi 0) (qi 1),pt (qi 0) x0 (qi 1),pt (qi 0) (qi 3) (qi 1),pt (qi 0) (qi 3) (qi 0)]⟩)],.tu [.sl (q9 128) 0 1 1 1,ni 0],[(q9 128,⟨1,1,[.zz .i64 0]⟩)]⟩
def TE:List DE:=[aD 1 CP 8,aD 4 jE 786433,aD 1 CQ 10,aD 1 CP 12,aD 4 jE 786446,aD 4 jF 3940352]
def TF:List DE:=[aD 4 WL 274432,aD 4 jE 819392,aD 4 jE 786496,aD 4 jF 64,aD 4 jF 2891776]
def TG:List DE:=[aD 4 jF 206,aD 4 jF 193,aD 4 jE 787072]
def TH:List DE:=[aD 4 jE 786437,aD 4 WK 262146,aD 4 jE 786441,aD 4 jE 3416256,aD 4 jE 835776,aD 1 CR 12]
def TI:List DE:=[aD 4 WJ 12352,aD 1 CR 3,aD 1 CS 11,aD 1 CS 1,aD 4 jE 786444,aD 4 jF 832]
def TJ:List DE:=[aD 1 CP 5,aD 4 jF 197,aD 4 jE 270528,aD 1 CQ 1,aD 4 jF 201,aD 1 CS 15,aD 1 CQ 11]
def TK:List DE:=[aD 4 WL 67,aD 4 jF 704,aD 1 CR 8,aD 4 jE 786435,aD 1 CQ 15,aD 4 jF 204]
def TL:List DE:=[aD 4 jE 786440,aD 1 CP 9,aD 4 jF 3416064,aD 4 jF 12288,aD 1 CP 14,aD 4 jF 57344,aD 4 jE 787264]
def TM:List DE:=[aD 4 jF 20480,⟨[.gs (q9 0) 0 1 1,ni 1,ni 0],[(q9 0,⟨2,1,[.gs (q9 1) 0 4 9]⟩),(q9 1,⟨2,9,[pt (qi 0) (qi 0) (qi 0),pt (qi 0) (qi 3) (qi 0),pt (qi 4) (qi 3) (qi 0),pt (qi 4) (qi 0) (qi 0)]⟩)],.tu [.sl (q9 128) 0 1 1 1,ni 0],[(q9 128,⟨1,1,[.zz .i64 0]⟩)]⟩,aD 1 CS 5,aD 4 jE 786752,aD 4 jF 320,aD 4 jF 195,aD 4 jF 36864,aD 4 jE 1319104]
def TN:List DE:=[aD 4 jF 270336,aD 1 CP 1,aD 4 jF 4096,aD 4 jE 787136,aD 1 CQ 5,aD 4 jF 200,aD 4 jE 787392,aD 4 jF 960,aD 1 CS 13]
def Pl:List DE:=[aD 4 WM 270336,aD 4 jE 1843392,aD 1 CQ 13]
def Pm:List DE:=[⟨[.gs (q9 0) 0 1 1,ni 0,ni 1],[(q9 0,⟨2,1,[.gs (q9 1) 0 4 9]⟩),(q9 1,⟨2,9,[pt (qi 0) (qi 0) (qi 1),pt (qi 4) (qi 0) (qi 1),pt (qi 4) (qi 3) (qi 1),pt (qi 0) (qi 3) (qi 1)]⟩)],.tu [.sl (q9 128) 0 1 1 1,ni 0],[(q9 128,⟨1,1,[.zz .i64 0]⟩)]⟩,aD 1 CR 5,aD 4 jE 2629824,aD 4 jF 49152]
def Pn:List DE:=[aD 4 WJ 262147,aD 4 WK 8256,aD 4 jF 32768,aD 4 jE 798912,aD 4 jF 1318912,aD 4 jE 843968,aD 4 jE 3940544]
def Po:List DE:=[aD 4 WM 66,aD 4 jE 807104,aD 1 CS 7,aD 4 jE 823488,aD 1 CR 9,aD 1 CR 14,aD 4 jE 2891968]
def Pp:List DE:=[aD 4 jF 1843200,aD 1 CQ 7,aD 1 CP 3,aD 4 jE 790720]
def Pq:List DE:=[aD 4 jE 786880,aD 4 jF 448,aD 4 jF 2629632,aD 1 CR 1,aD 1 CS 10,aD 4 jF 640]
def b0_2:List (List DE):=[TE,TF,TG,TH,TI,TJ,TK,TL,TM,TN,Pl,Pm,Pn,Po,Pp,Pq]
def qL(x0 x1 x2 x3 x4 x5 x6 x7 x8 x9 x10 x11 x12 x13 x14 x15 x16 x17 x18 x19 x20 x21 x22 x23 x24 x25 x26 x27 x28 x29 x30 x31 x32 x33 x34 x35 x36 x37 x38 x39 x40 x41 x42 x43 x44 x45 x46 x47 x48 x49 x50 x51 x52 x53 x54 x55 x56 x57 x58 x59 x60 x61 x62 x63 x64 x65 x66 x67 x68 x69 x70 x71 x72 x73 x74 x75 x76 x77 x78 x79 x80 x81 x82 x83 x84 x85 x86 x87 x88 x89 x90 x91 x92 x93 x94 x95 x96 x97 x98 x99 x100 x101 x102 x103 x104 x105 x106 x107 x108 x109 x110 x111 x112 x113 x114:V):DE:=⟨[.gs (q9 0) 0 4 9,.gs (q9 1) 0 10 12],[(q9 0,⟨2,9,[pt x0 x1 (qm 1 1),pt x2 x3 x4,pt x5 x6 (qi 2),pt x7 x8 x9]⟩),(q9 1,⟨2,12,[.ag 12 [qi 1,qi 0,qi 0,qi 0],.ag 12 [qi 0,qi 0,qi 1,qi 0],.ag 12 [qi 0,qi 1,qi 0,qi 0],.ag 12 [qi 0,qi 0,qi 1,qi 1],.ag 12 [qi 0,qi 1,qi 0,qi 3],.ag 12 [qi 1,qi 0,qi 0,qi 4],.ag 12 [x10,x11,x12,x13],.ag 12 [x14,x15,x16,x17],.ag 12 [x18,x19,x20,x21],.ag 12 [x22,x23,x24,x25]]⟩)],.gs (q9 128) 0 9 1,[(q9 128,⟨2,1,[.gs (q9 129) 0 4 9,.gs (q9 130) 0 4 9,.gs (q9 131) 0 4 9,.gs (q9 132) 0 4 9,.gs (q9 133) 0 4 9,.gs (q9 134) 0 4 9,.gs (q9 135) 0 4 9,.gs (q9 136) 0 4 9,.gs (q9 137) 0 4 9]⟩),(q9 129,⟨2,9,[pt x26 x27 x28,pt x29 x30 x31,pt x32 x33 x34,pt x35 x36 x37]⟩),(q9 130,⟨2,9,[pt x38 x39 x40,pt x41 x42 x43,pt x35 x44 x45,pt x46 x47 x48]⟩),(q9 131,⟨2,9,[pt x29 x49 x43,pt x50 x6 x51,pt x52 x6 x53,pt x54 x49 x55]⟩),(q9 132,⟨2,9,[pt x56 x57 x58,pt x59 x60 x61,pt x59 x62 x63,pt x56 x64 x65]⟩),(q9 133,⟨2,9,[pt x66 x67 x68,pt x69 x1 x70,pt x71 x72 x73,pt x74 x75 x76]⟩),(q9 134,⟨2,9,[pt x77 x78 x79,pt x80 x81 x82,pt x83 x84 x85,pt x86 x49 x87]⟩),(q9 135,⟨2,9,[pt x88 x89 x90,pt x91 x92 x93,pt x94 x95 x82,pt x96 x97 x98]⟩),(q9 136,⟨2,9,[pt x99 x100 x101,pt x102 x103 (qi 2),pt x104 x105 x106,pt x107 x108 (qi 1)]⟩),(q9 137,⟨2,9,[pt x109 x110 x111,pt x5 x6 (qi 2),pt x112 x113 x114,pt x86 x49 (qi 1)]⟩)]⟩
def qM(x0 x1 x2 x3 x4 x5 x6 x7 x8 x9 x10 x11 x12 x13 x14 x15 x16 x17 x18 x19 x20 x21 x22 x23 x24 x25 x26 x27:V):DE:=⟨[.gs (q9 0) 0 4 9,.gs (q9 1) 0 11 12],[(q9 0,⟨2,9,[pt (qm 1 1) (qm 1 1) x0,pt x1 x2 x0,pt (qi 5) (qi 4) x0,pt x3 x4 x0]⟩),(q9 1,⟨2,12,[.ag 12 [qi 1,qi 0,qi 0,qi 0],.ag 12 [qi 0,qi 0,qi 1,qi 0],.ag 12 [qi 0,qi 1,qi 0,qi 0],.ag 12 [qi 0,qi 0,qi 1,qi 1],.ag 12 [qi 0,qi 1,qi 0,qi 3],.ag 12 [qi 1,qi 0,qi 0,qi 4],.ag 12 [x5,x6,qi 0,qi 0],.ag 12 [x7,x8,qi 0,x9],.ag 12 [x10,x11,qi 0,x12],.ag 12 [x13,x14,qi 0,x15],.ag 12 [x16,x17,qi 0,qi 0]]⟩)],.gs (q9 128) 0 9 1,[(q9 128,⟨2,1,[.gs (q9 129) 0 4 9,.gs (q9 130) 0 4 9,.gs (q9 131) 0 4 9,.gs (q9 132) 0 4 9,.gs (q9 133) 0 4 9,.gs (q9 134) 0 4 9,.gs (q9 135) 0 4 9,.gs (q9 136) 0 4 9,.gs (q9 137) 0 4 9]⟩),(q9 129,⟨2,9,[pt (qm 1 1) (qm 1 1) x0,pt x18 x19 x0,pt (qi 0) (qi 0) x0,pt x19 x18 x0]⟩),(q9 130,⟨2,9,[pt x18 (qi 0) x0,pt x18 (qi 3) x0,pt x19 (qi 3) x0,pt x19 (qi 0) x0]⟩),(q9 131,⟨2,9,[pt x18 (qi 3) x0,pt x18 (qi 4) x0,pt x19 (qi 4) x0,pt x19 (qi 3) x0]⟩),(q9 132,⟨2,9,[pt x20 (qm 1 1) x0,pt x21 (qm 1 1) x0,pt x21 (qi 0) x0,pt x20 (qi 0) x0]⟩),(q9 133,⟨2,9,[pt x22 x19 x0,pt (qi 5) (qm 1 1) x0,pt x23 x18 x0,pt (qi 4) (qi 0) x0]⟩),(q9 134,⟨2,9,[pt (qi 4) x24 x0,pt (qi 0) x24 x0,pt (qi 0) x25 x0,pt (qi 4) x25 x0]⟩),(q9 135,⟨2,9,[pt (qi 5) x25 x0,pt (qi 5) x24 x0,pt (qi 4) x24 x0,pt (qi 4) x25 x0]⟩),(q9 136,⟨2,9,[pt x21 (qi 4) x0,pt x20 (qi 4) x0,pt x20 (qi 3) x0,pt x21 (qi 3) x0]⟩),(q9 137,⟨2,9,[pt x23 x26 x0,pt (qi 5) (qi 4) x0,pt x22 x27 x0,pt (qi 4) (qi 3) x0]⟩)]⟩
def Ji(x0 x1 x2 x3 x4 x5 x6 x7 x8 x9 x10 x11 x12 x13 x14 x15 x16 x17 x18 x19 x20 x21 x22 x23 x24 x25 x26 x27 x28 x29 x30 x31 x32:V):DE:=⟨[.gs (q9 0) 0 4 9,.gs (q9 1) 0 10 12],[(q9 0,⟨2,9,[pt x0 x1 (qm 1 1),pt x0 x2 x3,pt x0 x4 (qi 2),pt x0 x5 x6]⟩),(q9 1,⟨2,12,[.ag 12 [qi 1,qi 0,qi 0,qi 0],.ag 12 [qi 0,qi 0,qi 1,qi 0],.ag 12 [qi 0,qi 1,qi 0,qi 0],.ag 12 [qi 0,qi 0,qi 1,qi 1],.ag 12 [qi 0,qi 1,qi 0,qi 3],.ag 12 [qi 1,qi 0,qi 0,qi 4],.ag 12 [qi 0,x7,x8,x9],.ag 12 [qi 0,x10,x11,x12],.ag 12 [qi 0,x13,x14,x15],.ag 12 [qi 0,x16,x17,x18]]⟩)],.gs (q9 128) 0 12 1,[(q9 128,⟨2,1,[.gs (q9 129) 0 4 9,.gs (q9 130) 0 4 9,.gs (q9 131) 0 4 9,.gs (q9 132) 0 4 9,.gs (q9 133) 0 4 9,.gs (q9 134) 0 4 9,.gs (q9 135) 0 4 9,.gs (q9 136) 0 4 9,.gs (q9 137) 0 4 9,.gs (q9 138) 0 4 9,.gs (q9 139) 0 4 9,.gs (q9 140) 0 4 9]⟩),(q9 129,⟨2,9,[pt x0 x1 (qm 1 1),pt x0 x19 x16,pt x0 (qi 0) (qi 0),pt x0 x20 x7]⟩),(q9 130,⟨2,9,[pt x0 x21 x16,pt x0 x22 x16,pt x0 x22 x7,pt x0 x21 x7]⟩),(q9 131,⟨2,9,[pt x0 x23 x16,pt x0 x24 x16,pt x0 x24 x7,pt x0 x23 x7]⟩),(q9 132,⟨2,9,[pt x0 (qi 3) x16,pt x0 x4 x16,pt x0 x4 x7,pt x0 (qi 3) x7]⟩),(q9 133,⟨2,9,[pt x0 x1 x10,pt x0 x1 x13,pt x0 (qi 0) x13,pt x0 (qi 0) x10]⟩),(q9 134,⟨2,9,[pt x0 x19 x25,pt x0 x1 (qi 2),pt x0 x20 x26,pt x0 (qi 0) (qi 1)]⟩),(q9 135,⟨2,9,[pt x0 x22 x10,pt x0 x21 x10,pt x0 x21 x13,pt x0 x22 x13]⟩),(q9 136,⟨2,9,[pt x0 x24 x10,pt x0 x23 x10,pt x0 x23 x13,pt x0 x24 x13]⟩),(q9 137,⟨2,9,[pt x0 x4 x13,pt x0 x4 x10,pt x0 (qi 3) x10,pt x0 (qi 3) x13]⟩),(q9 138,⟨2,9,[pt x0 x27 (qi 2),pt x0 x28 (qi 2),pt x0 x28 (qi 1),pt x0 x27 (qi 1)]⟩),(q9 139,⟨2,9,[pt x0 x29 (qi 2),pt x0 x30 (qi 2),pt x0 x30 (qi 1),pt x0 x29 (qi 1)]⟩),(q9 140,⟨2,9,[pt x0 x31 x26,pt x0 x4 (qi 2),pt x0 x32 x25,pt x0 (qi 3) (qi 1)]⟩)]⟩
def TO:List DE:=[aD 115 qL 0x534206008d08100200214d08034234206008080200200008100204d08100204408508500204000000408110200200210234000200d10d08400200408000210008410200010034d00034004002d0001440a0084802102,aD 115 qL 0x10e21433830010ce0ce1430010ce0ce0038810e204e0430000c00033800ce1033848800e20030031030040ce0401401440c00c00430431000c41030000c00031040c402b00038000138e0000000041038838850c40c4,aD 115 qL 0x10de1433030010cc0cc1430010cc0cc0037810de04c0430000c00033000cc1033047800de0030031030040cc0401401440c00c00430431000c41030000c00031040c402c00030000130c0000000041037837850c40c4]
def TP:List DE:=[aD 115 qL 0x190014f0000013c03c01400013c03c002400190004004000000000f0010001400050011000000400440001001001000003c400010f00f00000010000000000400410002e0003c00403cf000000100124024005100100,aD 115 qL 0x50020401800c10050051400c10020031400c50020020400810060001800030001411410030000000400c10020020061060000050001000c40050000c0002100084003440004041000080001004000140140184006005,aD 115 qL 0x168014a00000128028014000128028001a00168004004000000000a00100014000500110000004004400010010010000028400010a00a00000010000000000400410002900028004028a00000010011a01a005100100,aD 115 qL 0x53c206408f08100200214f0803c23c206408090200200008100204f0810020440850850020400000040811020020021023c000200f10f0840020040800021000841020001003cf0003c004002e0001440a4084902102]
def TQ:List DE:=[]
def TR:List DE:=[aD 115 qL 0x10801430070051c05400550011c00c01430051c00000020010800430001c00470010005400070030430011c01001000000c41c00070150045401070040c00030001c00260000c00401c7000980100102002005540540,aD 115 qL 0x50020401802410190191402410020091402450020020400810060001800090006416410090000000402410020020061060000190001002440190002400021000840099c0004208000080001028000140640184006019]
def TS:List DE:=[aD 115 qL 0x10c31431430010c50c51430010c50c50030c10c30450430000c00031400c51031440c00c30030031030040c50401401440c00c00430431000c41030000c00031040c40130001400011450000000041030c30c50c40c4,aD 115 qL 0x50c20420810810020021410810c20421410850c20020430810820020800420000810810420030010410810c20020021020c00020011010840020010800c21030840421001001450000c0040013000140082084082002]
def TT:List DE:=[aD 115 qL 0x500e04088038100000014038000e00e04088002200e00000100004038000e00088488400e00000010038400004414414000000404004000000000010000010000400400000438e00038000102b000140100884022004,aD 115 qL 0x108014300d0053408400610013400c014300534000000200108004300034004d00100084000d0030430013401001000000c434000d02100484010d0040c000300034002e0000c00403cf000b40100102002005840840]
def TU:List DE:=[aD 115 qL 0x50020401800410000001400410020011400450020020400810060001800010000010010010000000400410020020061060000000001000440000000400021000840011000040c3000080001011000140000184006000,aD 115 qL 0x500204018030101f01f14030100200c14030500200204008100600018000c0007c17c100c00000004030100200200610600001f00010030401f00030000210008400cb0000438e00008000102b0001407c018400601f,aD 115 qL 0x10c61430833850ce0e30438c10ce0c21430850ce0020031810c60430800ce0433818c00e30030030430810ce1021060060c40ce0030038c40e31033840c20030800ce02c00008000130c000ac00041031831850e30e3]
def TV:List DE:=[aD 33 Ji 0x308028a0c114a00329b0290042cb00300102a0056c21026c2,aD 115 qL 0x50c204208f08194294214f0810c23c214f0850c20020430810820020803c20250810813c200300f04f0810c20020021020c094200f10f08494200f0800c21030843c2b8010034d0000c004002d000165082084082942]
def TW:List DE:=[aD 115 qL 0x50c20420830810020021430800c20c20420800820020000810020430810020440850850020400000040811020020021020c00020031030840020040800021000841020001000c30000c0040011000144082084082102,aD 115 qL 0x50c20420850810420421450810c21421450850c20020430810820020801420010810811420030050450810c20020021020c00420051050840420050800c21030841424c01000410000c0040004000141082084082042]
def TX:List DE:=[aD 115 qL 0x5001040140041000000140040001001040140005001000001000040040001000144144001000000100044000044144140000004040040000000000100000100004004000004041000040001004000140100144005004,aD 115 qL 0x10c61430833050cc0df0437c10cc0c21430850cc0020031810c60430800cc0433017c00df0030030430810cc1021060060c40cc0030037c40df1033040c20030800cc02b00008000138e000b000041031831850df0df]
def Pr:List DE:=[aD 115 qL 0x108014300f0053c09400650013c00c01430053c00000020010800430003c004f00100094000f0030430013c01001000000c43c000f02500494010f0040c00030003c002d0000c004034d000b80100102002005940940]
def Ps:List DE:=[aD 115 qL 0x10801430000010c00c01400010c00c00020010800400400000000030010001400050011000000400440001001001000000c40001030030000001000000000040041000110000c00400c3000000100102002005100100,aD 115 qL 0x10801430050051400400410011400c01430051400000020010800430001400450010000400050030430011401001000000c41400050010040401050040c00030001400040000c00400410004c0100102002005040040]
def Pu:List DE:=[aD 115 qL 0x10c21430c30010c30c31430010c30c30030810c20430430000c00030c00c31030c40800c20030031030040c30401401440c00c00430431000c41030000c00031040c40110000c00010c30000000041030830850c40c4,aD 115 qL 0x10c61430830450c10c00430010c10c21430850c10020031810c60430800c10430410000c00030030430810c11021060060c40c10030030040c01030440c20030800c10110000800010c30001000041031831850c00c0]
def AX:List DE:=[aD 115 qL 0x50050400c01410000001401400050050400c00030050000010000401400050000c40c40050000001001440000441441400000040400400000000001000001000040040000041450001400010130001401000c4003004,aD 28 qM 0x83003182080100011402010003013013002104181,aD 28 qM 0x8300318208010001140202f007bc01d2002104181,aD 115 qL 0x51c20540870810020021470801c21c20540805020020000810020470810020440850850020400000040811020020021021c00020071070840020040800021000841020001001c70001c0040026000144094084502102,aD 28 qM 0x83003182080100011bc502f1404000d2002104181,aD 28 qM 0x830031820801000260009900804000d2002104181,aD 28 qM 0x83003182080100011402010003027028002104181,aD 28 qM 0x83003182080100011402030005080052002104181,aD 28 qM 0x83003182080100011c090022004000d2002104181,aD 28 qM 0x830031820801000130001100804000d2002104181,aD 28 qM 0x83003182080100011402010003011004002104181,aD 28 qM 0x8300318208010001140203100b0c0292002104181,aD 28 qM 0x83003182080100011c430030404000d2002104181,aD 28 qM 0x8300318208010002a000a500804000d2002104181,aD 115 qL 0x108014300b0052c074005d0012c00c01430052c00000020010800430002c004b00100074000b0030430012c01001000000c42c000b01d00474010b0040c00030002c00290000c004028a000a80100102002005740740,aD 28 qM 0x83003182080100011402010003028027002104181,aD 28 qM 0x83003182080100011402002001c00152002104181,aD 28 qM 0x830031820801000110880302404000d2002104181,aD 28 qM 0x830031820801000040004d00804000d2002104181,aD 28 qM 0x8300318208010001140201000302b02c002104181,aD 28 qM 0x8300318208010001140203200fcc0352002104181,aD 28 qM 0x83003182080100011c8e0333004000d2002104181,aD 28 qM 0x8300318208010002e000b500804000d2002104181,aD 28 qM 0x83003182080100011402010003004011002104181,aD 28 qM 0x8300318208010001140200300ac402d2002104181,aD 28 qM 0x830031820801000110c10310c04000d2002104181,aD 28 qM 0x83003182080100029000a900804000d2002104181,aD 33 Ji 0x20ca00328504a0032806c0a800c004b2c0a4010408215b6c0,aD 28 qM 0x8300318208010001140201000302c02b002104181,aD 28 qM 0x8300318208010001140203300dc803d2002104181,aD 28 qM 0x83003182080100011ccc0323804000d2002104181,aD 28 qM 0x8300318208010002d000b900804000d2002104181]
def Pv:List DE:=[aD 33 Ji 0x1c0c32cb0050432cb000100a802c004b2c000010471c144100,aD 115 qL 0x50030400800c10000001400c00030030400800020030000010000400c00030000840840030000001000c40000441441400000040400400000000001000001000040040000040c30000c0001011000140100084002004]
def Pw:List DE:=[aD 115 qL 0x5042045081081002002141080042042045080142002000081002041081002044085085002040000004081102002002102040002001101084002004080002100084102000100041000040040004000144085084142102]
def Px:List DE:=[aD 115 qL 0x5008040580201000000140200008008040580016008000001000040200008000584584008000000100204000044144140000004040040000000000100000100004004000004208000200001028000140100584016004,aD 115 qL 0x50020401802010170171402010020081402050020020400810060001800080005c15c1008000000040201002002006106000017000100204017000200002100084008a000042490000800010270001405c0184006017]
def Py:List DE:=[]
def Pz:List DE:=[aD 115 qL 0x50020401801410010011401410020051401450020020400810060001800050000410410050000000401410020020061060000010001001440010001400021000840054c0004145000080001013000140040184006001,aD 115 qL 0x5002040180081000000140080002002040180006002000001000040080002000184184002000000100084000044144140000004040040000000000100000100004004000004082000080001012000140100184006004,aD 115 qL 0x10c61430832450c90d90436410c90c21430850c90020031810c60430800c90432416400d90030030430810c91021060060c40c90030036440d91032440c20030800c90280000800012080009c00041031831850d90d9]
def PA:List DE:=[aD 115 qL 0x10801430010050400000400010400c01430050400000020010800430000400410010000000010030430010401001000000c40400010000040001010040c00030000400130000c0040145000100100102002005000000]
def PB:List DE:=[aD 115 qL 0x10c61430830010c20c21430010c20c20031810c60420430000c00030800c21030841800c60030031030040c20401401440c00c00430431000c41030000c00031040c40120000800010820000000041031831850c40c4,aD 115 qL 0x10c61430831450c50c10430410c50c21430850c50020031810c60430800c50431410400c10030030430810c51021060060c40c50030030440c11031440c20030800c50130000800011450004c00041031831850c10c1,aD 115 qL 0x10c01450000011401401400011401400030010c0040040000000005001000140005001100000040044000100100100000144000105005000000100000000004004100013000140040145000000100103003005100100]
def PC:List DE:=[]
def PD:List DE:=[aD 115 qL 0x180014d00000134034014000134034002000180004004000000000d00100014000500110000004004400010010010000034400010d00d00000010000000000400410002d00034004034d000000100120020005100100]
def AY:List DE:=[aD 28 qM 0xc20c00860020044c0013010003402000444182100,aD 28 qM 0xc20c0086002004480bc01ef007402000444182100,aD 28 qM 0xc20c00860020044804000ef140bc5000444182100,aD 28 qM 0xc20c00860020044804000d0080000980984182100,aD 28 qM 0xc20c0086002004a00027010003402000444182100,aD 28 qM 0xc20c0086002004480080070005402000444182100,aD 28 qM 0xc20c00860020044804000c2200c09000444182100,aD 28 qM 0xc20c00860020044804000d00800001004c4182100,aD 28 qM 0xc20c0086002004100011010003402000444182100,aD 28 qM 0xc20c00860020044800c02b100b402000444182100,aD 115 qL 0x528205a08a08100200214a08028228205a08068200200008100204a08100204408508500204000000408110200200210228000200a10a08400200408000210008410200010028a00028004002900014409a084682102,aD 28 qM 0xc20c00860020044804000c3040c43000444182100,aD 28 qM 0xc20c00860020044804000d0080000a40a84182100,aD 28 qM 0xc20c00860020049c0028010003402000444182100,aD 28 qM 0xc20c0086002004480c00142001402000444182100,aD 28 qM 0xc20c00860020044804000f0240088000444182100,aD 115 qL 0x10d61432030010c80c81430010c80c80035810d60480430000c00032000c81032045800d60030031030040c80401401440c00c00430431000c41030000c00031040c40280002000012080000000041035835850c40c4,aD 28 qM 0xc20c00860020044804000d00800004c0104182100,aD 28 qM 0xc20c0086002004b0002b010003402000444182100,aD 28 qM 0xc20c0086002004480cc037200f402000444182100,aD 28 qM 0xc20c00860020044804000f3300c8e000444182100,aD 28 qM 0xc20c00860020044804000d0080000b40b84182100,aD 28 qM 0xc20c0086002004440004010003402000444182100,aD 28 qM 0xc20c0086002004480c402c300a402000444182100,aD 115 qL 0x50c204208b08174274214b0810c22c214b0850c20020430810820020802c201d0810812c200300b04b0810c20020021020c074200b10b08474200b0800c21030842c2a8010028a0000c004002900015d082084082742,aD 28 qM 0xc20c00860020044804000f10c00c1000444182100,aD 28 qM 0xc20c00860020044804000d0080000a80a44182100,aD 28 qM 0xc20c0086002004ac002c010003402000444182100,aD 28 qM 0xc20c0086002004480c803f300d402000444182100,aD 28 qM 0xc20c00860020044804000f2380ccc000444182100,aD 28 qM 0xc20c00860020044804000d0080000b80b44182100]
def PE:List DE:=[aD 115 qL 0x10c61430832050c80d70435c10c80c21430850c80020031810c60430800c80432015c00d70030030430810c81021060060c40c80030035c40d71032040c20030800c8027000080001249000a000041031831850d70d7]
def PF:List DE:=[aD 115 qL 0x10c61430830c50c30c50431410c30c21430850c30020031810c60430800c30430c11400c50030030430810c31021060060c40c30030031440c51030c40c20030800c30040000800010410004400041031831850c50c5,aD 115 qL 0x10c51430430010c10c11430010c10c10031410c50410430000c00030400c11030441400c50030031030040c10401401440c00c00430431000c41030000c00031040c40040000400010410000000041031431450c40c4,aD 115 qL 0x500204018038102302314038100200e14038500200204008100600018000e0008c18c100e00000004038100200200610600002300010038402300038000210008400eac000430c00008000102c0001408c0184006023]
def PG:List DE:=[aD 115 qL 0x10d81432430010c90c91430010c90c90036010d80490430000c00032400c91032446000d80030031030040c90401401440c00c00430431000c41030000c00031040c40270002400012490000000041036036050c40c4,aD 115 qL 0x5009040600241000000140240009009040600018009000001000040240009000604604009000000100244000044144140000004040040000000000100000100004004000004249000240001027000140100604018004,aD 115 qL 0x51420430850810020021450801421420430800c20020000810020450810020440850850020400000040811020020021021400020051050840020040800021000841020001001450001400400130001440830840c2102,aD 115 qL 0x1140141000001040040140001040040005001140040040000000001001000140005001100000040044000100100100000044000101001000000100000000004004100004000040040041000000100105005005100100]
def PH:List DE:=[aD 115 qL 0x15001470000011c01c01400011c01c00140015000400400000000070010001400050011000000400440001001001000001c40001070070000001000000000040041000260001c00401c7000000100114014005100100,aD 115 qL 0x500c04078030100000014030000c00c04078001e00c00000100004030000c00078478400c00000010030400004414414000000404004000000000010000010000400400000430c00030000102c00014010078401e004,aD 115 qL 0x50c204208d08184284214d0810c234214d0850c200204308108200208034202108108134200300d04d0810c20020021020c084200d10d08484200d0800c2103084342b401003cf0000c004002e000161082084082842]
def PJ:List DE:=[aD 115 qL 0x50c20420870815425421470810c21c21470850c20020430810820020801c20150810811c20030070470810c20020021020c05420071070845420070800c21030841c29801001c70000c0040026000155082084082542,aD 33 Ji 0x370b0c02c11432cb0040000042cb00b00102a00511c11c102]
def b0_3:List (List DE):=[TO,TP,TQ,TR,TS,TT,TU,TV,TW,TX,Pr,Ps,Pu,AX,Pv,Pw,Px,Py,Pz,PA,PB,PC,PD,AY,PE,PF,PG,PH,PJ]
def tb1:List (Nat×Pt):=(196,.memoD Mf)::(31,.memoH 16 b0_1)::(98,.memoH 16 b0_2)::(83,.memoH 29 b0_3)::j6
end
noncomputable section
def zD(x0 x1 x2 x3 x4:V):DE:=⟨[.sl (q9 0) 0 1 1 1,qi 0,qi 1],[(q9 0,⟨1,1,[.gs (q9 1) 0 5 9]⟩),(q9 1,⟨2,9,[pt (qi 0) (qi 0) (qi 0),pt x0 (qi 0) (qi 0),pt (qi 4) x1 (qi 0),pt (qi 4) (qi 3) (qi 0),pt (qi 0) (qi 3) (qi 0)]⟩)],.tu [.ag 3 [.gs (q9 128) 0 10 9,.gs (q9 129) 0 7 14,nS],ni 0],[(q9 128,⟨2,9,[pt (qi 0) (qi 0) (qi 0),pt (qi 0) (qi 0) (qi 1),pt (qi 0) (qi 3) (qi 0),pt (qi 0) (qi 3) (qi 1),pt x0 (qi 0) (qi 0),pt x0 (qi 0) (qi 1),pt (qi 4) x1 (qi 0),pt (qi 4) x1 (qi 1),pt (qi 4) (qi 3) (qi 0),pt (qi 4) (qi 3) (qi 1)]⟩),(q9 129,⟨2,14,[.ag 14 [qi 0,qi 0,qm 1 1,qi 0,.gs (q9 130) 0 1 1,.st [98,111,116,116,111,109]],.ag 14 [qi 0,qm 1 1,qi 0,qi 0,.gs (q9 131) 0 1 1,.st [115,48,46,48]],.ag 14 [x2,x3,qi 0,x4,.gs (q9 132) 0 1 1,.st [115,48,46,49]],.ag 14 [qi 1,qi 0,qi 0,qi 4,.gs (q9 133) 0 1 1,.st [115,48,46,50]],.ag 14 [qi 0,qi 1,qi 0,qi 3,.gs (q9 134) 0 1 1,.st [115,48,46,51]],.ag 14 [qm 1 1,qi 0,qi 0,qi 0,.gs (q9 135) 0 1 1,.st [115,48,46,52]],.ag 14 [qi 0,qi 0,qi 1,qi 1,.gs (q9 136) 0 1 1,.st [116,111,112]]]⟩),(q9 130,⟨2,1,[.gs (q9 137) 0 5 1]⟩),(q9 131,⟨2,1,[.gs (q9 138) 0 4 1]⟩),(q9 132,⟨2,1,[.gs (q9 139) 0 4 1]⟩),(q9 133,⟨2,1,[.gs (q9 140) 0 4 1]⟩),(q9 134,⟨2,1,[.gs (q9 141) 0 4 1]⟩),(q9 135,⟨2,1,[.gs (q9 142) 0 4 1]⟩),(q9 136,⟨2,1,[.gs (q9 143) 0 5 1]⟩),(q9 137,⟨2,1,[ni 0,ni 2,ni 8,ni 6,ni 4]⟩),(q9 138,⟨2,1,[ni 0,ni 4,ni 5,ni 1]⟩),(q9 139,⟨2,1,[ni 4,ni 6,ni 7,ni 5]⟩),(q9 140,⟨2,1,[ni 6,ni 8,ni 9,ni 7]⟩),(q9 141,⟨2,1,[ni 2,ni 3,ni 9,ni 8]⟩),(q9 142,⟨2,1,[ni 0,ni 1,ni 3,ni 2]⟩),(q9 143,⟨2,1,[ni 1,ni 5,ni 7,ni 9,ni 3]⟩)]⟩
def zE(x0 x1 x2 x3 x4:V):DE:=⟨[.sl (q9 0) 0 1 1 1,qi 0,qi 1],[(q9 0,⟨1,1,[.gs (q9 1) 0 5 9]⟩),(q9 1,⟨2,9,[pt (qi 0) (qi 0) (qi 0),pt (qi 4) (qi 0) (qi 0),pt (qi 4) (qi 3) (qi 0),pt x0 (qi 3) (qi 0),pt (qi 0) x1 (qi 0)]⟩)],.tu [.ag 3 [.gs (q9 128) 0 10 9,.gs (q9 129) 0 7 14,nS],ni 0],[(q9 128,⟨2,9,[pt (qi 0) (qi 0) (qi 0),pt (qi 0) (qi 0) (qi 1),pt (qi 0) x1 (qi 0),pt (qi 0) x1 (qi 1),pt x0 (qi 3) (qi 0),pt x0 (qi 3) (qi 1),pt (qi 4) (qi 0) (qi 0),pt (qi 4) (qi 0) (qi 1),pt (qi 4) (qi 3) (qi 0),pt (qi 4) (qi 3) (qi 1)]⟩),(q9 129,⟨2,14,[.ag 14 [qi 0,qi 0,qm 1 1,qi 0,.gs (q9 130) 0 1 1,.st [98,111,116,116,111,109]],.ag 14 [qi 0,qm 1 1,qi 0,qi 0,.gs (q9 131) 0 1 1,.st [115,48,46,48]],.ag 14 [qi 1,qi 0,qi 0,qi 4,.gs (q9 132) 0 1 1,.st [115,48,46,49]],.ag 14 [qi 0,qi 1,qi 0,qi 3,.gs (q9 133) 0 1 1,.st [115,48,46,50]],.ag 14 [x2,x3,qi 0,x4,.gs (q9 134) 0 1 1,.st [115,48,46,51]],.ag 14 [qm 1 1,qi 0,qi 0,qi 0,.gs (q9 135) 0 1 1,.st [115,48,46,52]],.ag 14 [qi 0,qi 0,qi 1,qi 1,.gs (q9 136) 0 1 1,.st [116,111,112]]]⟩),(q9 130,⟨2,1,[.gs (q9 137) 0 5 1]⟩),(q9 131,⟨2,1,[.gs (q9 138) 0 4 1]⟩),(q9 132,⟨2,1,[.gs (q9 139) 0 4 1]⟩),(q9 133,⟨2,1,[.gs (q9 140) 0 4 1]⟩),(q9 134,⟨2,1,[.gs (q9 141) 0 4 1]⟩),(q9 135,⟨2,1,[.gs (q9 142) 0 4 1]⟩),(q9 136,⟨2,1,[.gs (q9 143) 0 5 1]⟩),(q9 137,⟨2,1,[ni 0,ni 2,ni 4,ni 8,ni 6]⟩),(q9 138,⟨2,1,[ni 0,ni 6,ni 7,ni 1]⟩),(q9 139,⟨2,1,[ni 6,ni 8,ni 9,ni 7]⟩),(q9 140,⟨2,1,[ni 4,ni 5,ni 9,ni 8]⟩),(q9 141,⟨2,1,[ni 2,ni 3,ni 5,ni 4]⟩),(q9 142,⟨2,1,[ni 0,ni 1,ni 3,ni 2]⟩),(q9 143,⟨2,1,[ni 1,ni 7,ni 9,ni 5,ni 3]⟩)]⟩
def TY:List DE:=[aD 5 zE 50593989]
def TZ:List DE:=[aD 5 zD 33558978,aD 5 zD 33559234,aD 5 zE 50593985]
def U0:List DE:=[]
def U1:List DE:=[aD 5 zD 1048584,aD 5 zD 33558594,aD 5 zD 1048577]
def U2:List DE:=[aD 5 zE 16832,aD 5 zE 17088]
def U3:List DE:=[aD 5 zE 16448,aD 5 zE 50593998]
def U4:List DE:=[aD 5 zD 1048581,aD 5 zE 50593993,aD 5 zD 1048585,aD 5 zE 17344]
def U5:List DE:=[aD 5 zD 33559170,aD 5 zD 33558850]
def U6:List DE:=[aD 5 zE 16704,aD 5 zE 50593987,aD 5 zE 17024,aD 5 zD 33559490]
def U7:List DE:=[aD 5 zD 33559362,aD 5 zD 1048579,aD 5 zD 1048590,aD 5 zE 50593996]
def PK:List DE:=[aD 5 zE 50593992,aD 5 zD 1048588,aD 5 zE 17216]
def PL:List DE:=[]
def PM:List DE:=[⟨[.sl (q9 0) 0 1 1 1,qi 0,qi 1],[(q9 0,⟨1,1,[.sl (q9 1) 0 4 4 9]⟩),(q9 1,⟨1,9,[pt (qi 0) (qi 0) (qi 0),pt (qi 4) (qi 0) (qi 0),pt (qi 4) (qi 3) (qi 0),pt (qi 0) (qi 3) (qi 0)]⟩)],.tu [.ag 3 [.gs (q9 128) 0 8 9,.gs (q9 129) 0 6 14,nS],ni 0],[(q9 128,⟨2,9,[pt (qi 0) (qi 0) (qi 0),pt (qi 0) (qi 0) (qi 1),pt (qi 0) (qi 3) (qi 0),pt (qi 0) (qi 3) (qi 1),pt (qi 4) (qi 0) (qi 0),pt (qi 4) (qi 0) (qi 1),pt (qi 4) (qi 3) (qi 0),pt (qi 4) (qi 3) (qi 1)]⟩),(q9 129,⟨2,14,[.ag 14 [qi 0,qi 0,qm 1 1,qi 0,.gs (q9 130) 0 1 1,.st [98,111,116,116,111,109]],.ag 14 [qi 0,qm 1 1,qi 0,qi 0,.gs (q9 131) 0 1 1,.st [115,48,46,48]],.ag 14 [qi 1,qi 0,qi 0,qi 4,.gs (q9 132) 0 1 1,.st [115,48,46,49]],.ag 14 [qi 0,qi 1,qi 0,qi 3,.gs (q9 133) 0 1 1,.st [115,48,46,50]],.ag 14 [qm 1 1,qi 0,qi 0,qi 0,.gs (q9 134) 0 1 1,.st [115,48,46,51]],.ag 14 [qi 0,qi 0,qi 1,qi 1,.gs (q9 135) 0 1 1,.st [116,111,112]]]⟩),(q9 130,⟨2,1,[.gs (q9 136) 0 4 1]⟩),(q9 131,⟨2,1,[.gs (q9 137) 0 4 1]⟩),(q9 132,⟨2,1,[.gs (q9 138) 0 4 1]⟩),(q9 133,⟨2,1,[.gs (q9 139) 0 4 1]⟩),(q9 134,⟨2,1,[.gs (q9 140) 0 4 1]⟩),(q9 135,⟨2,1,[.gs (q9 141) 0 4 1]⟩),(q9 136,⟨2,1,[ni 0,ni 2,ni 6,ni 4]⟩),(q9 137,⟨2,1,[ni 0,ni 4,ni 5,ni 1]⟩),(q9 138,⟨2,1,[ni 4,ni 6,ni 7,ni 5]⟩),(q9 139,⟨2,1,[ni 2,ni 3,ni 7,ni 6]⟩),(q9 140,⟨2,1,[ni 0,ni 1,ni 3,ni 2]⟩),(q9 141,⟨2,1,[ni 1,ni 5,ni 7,ni 3]⟩)]⟩]
def b1_0:List (List DE):=[TY,TZ,U0,U1,U2,U3,U4,U5,U6,U7,PK,PL,PM]
def zF(x0 x1 x2 x3 x4:V):DE:=⟨[.ag 3 [.gs (q9 0) 0 10 9,.gs (q9 1) 0 7 14,nS]],[(q9 0,⟨2,9,[pt (qi 0) (qi 0) (qi 0),pt (qi 0) (qi 0) (qi 1),pt (qi 0) (qi 3) (qi 0),pt (qi 0) (qi 3) (qi 1),pt x0 (qi 0) (qi 0),pt x0 (qi 0) (qi 1),pt (qi 4) x1 (qi 0),pt (qi 4) x1 (qi 1),pt (qi 4) (qi 3) (qi 0),pt (qi 4) (qi 3) (qi 1)]⟩),(q9 1,⟨2,14,[.ag 14 [qi 0,qi 0,qm 1 1,qi 0,.gs (q9 2) 0 1 1,.st [98,111,116,116,111,109]],.ag 14 [qi 0,qm 1 1,qi 0,qi 0,.gs (q9 3) 0 1 1,.st [115,48,46,48]],.ag 14 [x2,x3,qi 0,x4,.gs (q9 4) 0 1 1,.st [115,48,46,49]],.ag 14 [qi 1,qi 0,qi 0,qi 4,.gs (q9 5) 0 1 1,.st [115,48,46,50]],.ag 14 [qi 0,qi 1,qi 0,qi 3,.gs (q9 6) 0 1 1,.st [115,48,46,51]],.ag 14 [qm 1 1,qi 0,qi 0,qi 0,.gs (q9 7) 0 1 1,.st [115,48,46,52]],.ag 14 [qi 0,qi 0,qi 1,qi 1,.gs (q9 8) 0 1 1,.st [116,111,112]]]⟩),(q9 2,⟨2,1,[.gs (q9 9) 0 5 1]⟩),(q9 3,⟨2,1,[.gs (q9 10) 0 4 1]⟩),(q9 4,⟨2,1,[.gs (q9 11) 0 4 1]⟩),(q9 5,⟨2,1,[.gs (q9 12) 0 4 1]⟩),(q9 6,⟨2,1,[.gs (q9 13) 0 4 1]⟩),(q9 7,⟨2,1,[.gs (q9 14) 0 4 1]⟩),(q9 8,⟨2,1,[.gs (q9 15) 0 5 1]⟩),(q9 9,⟨2,1,[ni 0,ni 2,ni 8,ni 6,ni 4]⟩),(q9 10,⟨2,1,[ni 0,ni 4,ni 5,ni 1]⟩),(q9 11,⟨2,1,[ni 4,ni 6,ni 7,ni 5]⟩),(q9 12,⟨2,1,[ni 6,ni 8,ni 9,ni 7]⟩),(q9 13,⟨2,1,[ni 2,ni 3,ni 9,ni 8]⟩),(q9 14,⟨2,1,[ni 0,ni 1,ni 3,ni 2]⟩),(q9 15,⟨2,1,[ni 1,ni 5,ni 7,ni 9,ni 3]⟩)],.ag 3 [.gs (q9 128) 0 10 9,.gs (q9 129) 0 7 14,nS],[(q9 128,⟨2,9,[pt (qi 0) (qi 0) (qi 0),pt (qi 0) (qi 0) (qi 1),pt (qi 0) (qi 3) (qi 0),pt (qi 0) (qi 3) (qi 1),pt x0 (qi 0) (qi 0),pt x0 (qi 0) (qi 1),pt (qi 4) x1 (qi 0),pt (qi 4) x1 (qi 1),pt (qi 4) (qi 3) (qi 0),pt (qi 4) (qi 3) (qi 1)]⟩),(q9 129,⟨2,14,[.ag 14 [qm 1 1,qi 0,qi 0,qi 0,.gs (q9 130) 0 1 1,.st [102]],.ag 14 [qi 0,qi 0,qm 1 1,qi 0,.gs (q9 131) 0 1 1,.st [102]],.ag 14 [qi 0,qm 1 1,qi 0,qi 0,.gs (q9 132) 0 1 1,.st [102]],.ag 14 [qi 0,qi 0,qi 1,qi 1,.gs (q9 133) 0 1 1,.st [102]],.ag 14 [qi 0,qi 1,qi 0,qi 3,.gs (q9 134) 0 1 1,.st [102]],.ag 14 [x2,x3,qi 0,x4,.gs (q9 135) 0 1 1,.st [102]],.ag 14 [qi 1,qi 0,qi 0,qi 4,.gs (q9 136) 0 1 1,.st [102]]]⟩),(q9 130,⟨2,1,[.gs (q9 137) 0 4 1]⟩),(q9 131,⟨2,1,[.gs (q9 138) 0 5 1]⟩),(q9 132,⟨2,1,[.gs (q9 139) 0 4 1]⟩),(q9 133,⟨2,1,[.gs (q9 140) 0 5 1]⟩),(q9 134,⟨2,1,[.gs (q9 141) 0 4 1]⟩),(q9 135,⟨2,1,[.gs (q9 142) 0 4 1]⟩),(q9 136,⟨2,1,[.gs (q9 143) 0 4 1]⟩),(q9 137,⟨2,1,[ni 0,ni 1,ni 3,ni 2]⟩),(q9 138,⟨2,1,[ni 0,ni 2,ni 8,ni 6,ni 4]⟩),(q9 139,⟨2,1,[ni 0,ni 4,ni 5,ni 1]⟩),(q9 140,⟨2,1,[ni 1,ni 5,ni 7,ni 9,ni 3]⟩),(q9 141,⟨2,1,[ni 2,ni 3,ni 9,ni 8]⟩),(q9 142,⟨2,1,[ni 4,ni 6,ni 7,ni 5]⟩),(q9 143,⟨2,1,[ni 6,ni 8,ni 9,ni 7]⟩)]⟩
def zG(x0 x1 x2 x3 x4:V):DE:=⟨[.ag 3 [.gs (q9 0) 0 10 9,.gs (q9 1) 0 7 14,nS]],[(q9 0,⟨2,9,[pt (qi 0) (qi 0) (qi 0),pt (qi 0) (qi 0) (qi 1),pt (qi 0) x0 (qi 0),pt (qi 0) x0 (qi 1),pt x1 (qi 3) (qi 0),pt x1 (qi 3) (qi 1),pt (qi 4) (qi 0) (qi 0),pt (qi 4) (qi 0) (qi 1),pt (qi 4) (qi 3) (qi 0),pt (qi 4) (qi 3) (qi 1)]⟩),(q9 1,⟨2,14,[.ag 14 [qi 0,qi 0,qm 1 1,qi 0,.gs (q9 2) 0 1 1,.st [98,111,116,116,111,109]],.ag 14 [qi 0,qm 1 1,qi 0,qi 0,.gs (q9 3) 0 1 1,.st [115,48,46,48]],.ag 14 [qi 1,qi 0,qi 0,qi 4,.gs (q9 4) 0 1 1,.st [115,48,46,49]],.ag 14 [qi 0,qi 1,qi 0,qi 3,.gs (q9 5) 0 1 1,.st [115,48,46,50]],.ag 14 [x2,x3,qi 0,x4,.gs (q9 6) 0 1 1,.st [115,48,46,51]],.ag 14 [qm 1 1,qi 0,qi 0,qi 0,.gs (q9 7) 0 1 1,.st [115,48,46,52]],.ag 14 [qi 0,qi 0,qi 1,qi 1,.gs (q9 8) 0 1 1,.st [116,111,112]]]⟩),(q9 2,⟨2,1,[.gs (q9 9) 0 5 1]⟩),(q9 3,⟨2,1,[.gs (q9 10) 0 4 1]⟩),(q9 4,⟨2,1,[.gs (q9 11) 0 4 1]⟩),(q9 5,⟨2,1,[.gs (q9 12) 0 4 1]⟩),(q9 6,⟨2,1,[.gs (q9 13) 0 4 1]⟩),(q9 7,⟨2,1,[.gs (q9 14) 0 4 1]⟩),(q9 8,⟨2,1,[.gs (q9 15) 0 5 1]⟩),(q9 9,⟨2,1,[ni 0,ni 2,ni 4,ni 8,ni 6]⟩),(q9 10,⟨2,1,[ni 0,ni 6,ni 7,ni 1]⟩),(q9 11,⟨2,1,[ni 6,ni 8,ni 9,ni 7]⟩),(q9 12,⟨2,1,[ni 4,ni 5,ni 9,ni 8]⟩),(q9 13,⟨2,1,[ni 2,ni 3,ni 5,ni 4]⟩),(q9 14,⟨2,1,[ni 0,ni 1,ni 3,ni 2]⟩),(q9 15,⟨2,1,[ni 1,ni 7,ni 9,ni 5,ni 3]⟩)],.ag 3 [.gs (q9 128) 0 10 9,.gs (q9 129) 0 7 14,nS],[(q9 128,⟨2,9,[pt (qi 0) (qi 0) (qi 0),pt (qi 0) (qi 0) (qi 1),pt (qi 0) x0 (qi 0),pt (qi 0) x0 (qi 1),pt x1 (qi 3) (qi 0),pt x1 (qi 3) (qi 1),pt (qi 4) (qi 0) (qi 0),pt (qi 4) (qi 0) (qi 1),pt (qi 4) (qi 3) (qi 0),pt (qi 4) (qi 3) (qi 1)]⟩),(q9 129,⟨2,14,[.ag 14 [qm 1 1,qi 0,qi 0,qi 0,.gs (q9 130) 0 1 1,.st [102]],.ag 14 [qi 0,qi 0,qm 1 1,qi 0,.gs (q9 131) 0 1 1,.st [102]],.ag 14 [qi 0,qm 1 1,qi 0,qi 0,.gs (q9 132) 0 1 1,.st [102]],.ag 14 [qi 0,qi 0,qi 1,qi 1,.gs (q9 133) 0 1 1,.st [102]],.ag 14 [x2,x3,qi 0,x4,.gs (q9 134) 0 1 1,.st [102]],.ag 14 [qi 0,qi 1,qi 0,qi 3,.gs (q9 135) 0 1 1,.st [102]],.ag 14 [qi 1,qi 0,qi 0,qi 4,.gs (q9 136) 0 1 1,.st [102]]]⟩),(q9 130,⟨2,1,[.gs (q9 137) 0 4 1]⟩),(q9 131,⟨2,1,[.gs (q9 138) 0 5 1]⟩),(q9 132,⟨2,1,[.gs (q9 139) 0 4 1]⟩),(q9 133,⟨2,1,[.gs (q9 140) 0 5 1]⟩),(q9 134,⟨2,1,[.gs (q9 141) 0 4 1]⟩),(q9 135,⟨2,1,[.gs (q9 142) 0 4 1]⟩),(q9 136,⟨2,1,[.gs (q9 143) 0 4 1]⟩),(q9 137,⟨2,1,[ni 0,ni 1,ni 3,ni 2]⟩),(q9 138,⟨2,1,[ni 0,ni 2,ni 4,ni 8,ni 6]⟩),(q9 139,⟨2,1,[ni 0,ni 6,ni 7,ni 1]⟩),(q9 140,⟨2,1,[ni 1,ni 7,ni 9,ni 5,ni 3]⟩),(q9 141,⟨2,1,[ni 2,ni 3,ni 5,ni 4]⟩),(q9 142,⟨2,1,[ni 4,ni 5,ni 9,ni 8]⟩),(q9 143,⟨2,1,[ni 6,ni 8,ni 9,ni 7]⟩)]⟩
def Cl:List DE:=[aD 5 zF 1048581,⟨[.ag 3 [.gs (q9 0) 0 8 9,.gs (q9 1) 0 6 14,nS]],[(q9 0,⟨2,9,[pt (qi 0) (qi 0) (qi 0),pt (qi 0) (qi 0) (qi 1),pt (qi 0) (qi 3) (qi 0),pt (qi 0) (qi 3) (qi 1),pt (qi 4) (qi 0) (qi 0),pt (qi 4) (qi 0) (qi 1),pt (qi 4) (qi 3) (qi 0),pt (qi 4) (qi 3) (qi 1)]⟩),(q9 1,⟨2,14,[.ag 14 [qi 0,qi 0,qm 1 1,qi 0,.gs (q9 2) 0 1 1,.st [98,111,116,116,111,109]],.ag 14 [qi 0,qm 1 1,qi 0,qi 0,.gs (q9 3) 0 1 1,.st [115,48,46,48]],.ag 14 [qi 1,qi 0,qi 0,qi 4,.gs (q9 4) 0 1 1,.st [115,48,46,49]],.ag 14 [qi 0,qi 1,qi 0,qi 3,.gs (q9 5) 0 1 1,.st [115,48,46,50]],.ag 14 [qm 1 1,qi 0,qi 0,qi 0,.gs (q9 6) 0 1 1,.st [115,48,46,51]],.ag 14 [qi 0,qi 0,qi 1,qi 1,.gs (q9 7) 0 1 1,.st [116,111,112]]]⟩),(q9 2,⟨2,1,[.gs (q9 8) 0 4 1]⟩),(q9 3,⟨2,1,[.gs (q9 9) 0 4 1]⟩),(q9 4,⟨2,1,[.gs (q9 10) 0 4 1]⟩),(q9 5,⟨2,1,[.gs (q9 11) 0 4 1]⟩),(q9 6,⟨2,1,[.gs (q9 12) 0 4 1]⟩),(q9 7,⟨2,1,[.gs (q9 13) 0 4 1]⟩),(q9 8,⟨2,1,[ni 0,ni 2,ni 6,ni 4]⟩),(q9 9,⟨2,1,[ni 0,ni 4,ni 5,ni 1]⟩),(q9 10,⟨2,1,[ni 4,ni 6,ni 7,ni 5]⟩),(q9 11,⟨2,1,[ni 2,ni 3,ni 7,ni 6]⟩),(q9 12,⟨2,1,[ni 0,ni 1,ni 3,ni 2]⟩),(q9 13,⟨2,1,[ni 1,ni 5,ni 7,ni 3]⟩)],.ag 3 [.gs (q9 128) 0 8 9,.gs (q9 129) 0 6 14,nS],[(q9 128,⟨2,9,[pt (qi 0) (qi 0) (qi 0),pt (qi 0) (qi 0) (qi 1),pt (qi 0) (qi 3) (qi 0),pt (qi 0) (qi 3) (qi 1),pt (qi 4) (qi 0) (qi 0),pt (qi 4) (qi 0) (qi 1),pt (qi 4) (qi 3) (qi 0),pt (qi 4) (qi 3) (qi 1)]⟩),(q9 129,⟨2,14,[.ag 14 [qm 1 1,qi 0,qi 0,qi 0,.gs (q9 130) 0 1 1,.st [102]],.ag 14 [qi 0,qi 0,qm 1 1,qi 0,.gs (q9 131) 0 1 1,.st [102]],.ag 14 [qi 0,qm 1 1,qi 0,qi 0,.gs (q9 132) 0 1 1,.st [102]],.ag 14 [qi 0,qi 0,qi 1,qi 1,.gs (q9 133) 0 1 1,.st [102]],.ag 14 [qi 0,qi 1,qi 0,qi 3,.gs (q9 134) 0 1 1,.st [102]],.ag 14 [qi 1,qi 0,qi 0,qi 4,.gs (q9 135) 0 1 1,.st [102]]]⟩),(q9 130,⟨2,1,[.gs (q9 136) 0 4 1]⟩),(q9 131,⟨2,1,[.gs (q9 137) 0 4 1]⟩),(q9 132,⟨2,1,[.gs (q9 138) 0 4 1]⟩),(q9 133,⟨2,1,[.gs (q9 139) 0 4 1]⟩),(q9 134,⟨2,1,[.gs (q9 140) 0 4 1]⟩),(q9 135,⟨2,1,[.gs (q9 141) 0 4 1]⟩),(q9 136,⟨2,1,[ni 0,ni 1,ni 3,ni 2]⟩),(q9 137,⟨2,1,[ni 0,ni 2,ni 6,ni 4]⟩),(q9 138,⟨2,1,[ni 0,ni 4,ni 5,ni 1]⟩),(q9 139,⟨2,1,[ni 1,ni 5,ni 7,ni 3]⟩),(q9 140,⟨2,1,[ni 2,ni 3,ni 7,ni 6]⟩),(q9 141,⟨2,1,[ni 4,ni 6,ni 7,ni 5]⟩)]⟩,aD 5 zF 33558978,aD 5 zG 50594115,aD 5 zG 16391,aD 5 zF 1048584,aD 5 zF 33558594,aD 5 zG 50594371,aD 5 zG 16389,aD 5 zF 1048577,aD 5 zF 33559170,aD 5 zG 50593987,aD 5 zG 16395,aD 5 zF 1048585,aD 5 zF 33558850,aD 5 zG 50594307,aD 5 zG 16385,aD 5 zF 1048588,aD 5 zF 33559362,aD 5 zG 50594691,aD 5 zG 16399,aD 5 zF 1048579,aD 5 zF 33559234,aD 5 zG 50593859,aD 5 zG 16394,aD 5 zF 1048590,aD 5 zF 33559490,aD 5 zG 50594563,aD 5 zG 16397]
def U8:List DE:=[⟨[.ag 3 [.sl (q9 0) 0 8 8 9,.sl (q9 1) 0 6 6 14,nS],.ag 3 [.gs (q9 2) 0 8 9,.gs (q9 3) 0 6 14,nS]],[(q9 0,⟨1,9,[pt (qi 0) (qi 0) (qi 0),pt (qi 0) (qi 0) (qi 1),pt (qi 0) (qi 3) (qi 0),pt (qi 0) (qi 3) (qi 1),pt (qi 4) (qi 0) (qi 0),pt (qi 4) (qi 0) (qi 1),pt (qi 4) (qi 3) (qi 0),pt (qi 4) (qi 3) (qi 1)]⟩),(q9 1,⟨1,14,[.ag 14 [qm 1 1,qi 0,qi 0,qi 0,.sl (q9 4) 0 1 1 1,.st [102]],.ag 14 [qi 0,qi 0,qm 1 1,qi 0,.sl (q9 5) 0 1 1 1,.st [102]],.ag 14 [qi 0,qm 1 1,qi 0,qi 0,.sl (q9 6) 0 1 1 1,.st [102]],.ag 14 [qi 0,qi 0,qi 1,qi 1,.sl (q9 7) 0 1 1 1,.st [102]],.ag 14 [qi 0,qi 1,qi 0,qi 3,.sl (q9 8) 0 1 1 1,.st [102]],.ag 14 [qi 1,qi 0,qi 0,qi 4,.sl (q9 9) 0 1 1 1,.st [102]]]⟩),(q9 2,⟨2,9,[pt (qi 0) (qi 0) (qi 0),pt (qi 0) (qi 0) (qi 1),pt (qi 0) (qi 3) (qi 0),pt (qi 0) (qi 3) (qi 1),pt (qi 4) (qi 0) (qi 0),pt (qi 4) (qi 0) (qi 1),pt (qi 4) (qi 3) (qi 0),pt (qi 4) (qi 3) (qi 1)]⟩),(q9 3,⟨2,14,[.ag 14 [qm 1 1,qi 0,qi 0,qi 0,.gs (q9 10) 0 1 1,.st [102]],.ag 14 [qi 0,qi 0,qm 1 1,qi 0,.gs (q9 11) 0 1 1,.st [102]],.ag 14 [qi 0,qm 1 1,qi 0,qi 0,.gs (q9 12) 0 1 1,.st [102]],.ag 14 [qi 0,qi 0,qi 1,qi 1,.gs (q9 13) 0 1 1,.st [102]],.ag 14 [qi 0,qi 1,qi 0,qi 3,.gs (q9 14) 0 1 1,.st [102]],.ag 14 [qi 1,qi 0,qi 0,qi 4,.gs (q9 15) 0 1 1,.st [102]]]⟩),(q9 4,⟨1,1,[.gs (q9 16) 0 4 1]⟩),(q9 5,⟨1,1,[.gs (q9 17) 0 4 1]⟩),(q9 6,⟨1,1,[.gs (q9 18) 0 4 1]⟩),(q9 7,⟨1,1,[.gs (q9 19) 0 4 1]⟩),(q9 8,⟨1,1,[.gs (q9 20) 0 4 1]⟩),(q9 9,⟨1,1,[.gs (q9 21) 0 4 1]⟩),(q9 10,⟨2,1,[.gs (q9 22) 0 4 1]⟩),(q9 11,⟨2,1,[.gs (q9 23) 0 4 1]⟩),(q9 12,⟨2,1,[.gs (q9 24) 0 4 1]⟩),(q9 13,⟨2,1,[.gs (q9 25) 0 4 1]⟩),(q9 14,⟨2,1,[.gs (q9 26) 0 4 1]⟩),(q9 15,⟨2,1,[.gs (q9 27) 0 4 1]⟩),(q9 16,⟨2,1,[ni 0,ni 1,ni 3,ni 2]⟩),(q9 17,⟨2,1,[ni 0,ni 2,ni 6,ni 4]⟩),(q9 18,⟨2,1,[ni 0,ni 4,ni 5,ni 1]⟩),(q9 19,⟨2,1,[ni 1,ni 5,ni 7,ni 3]⟩),(q9 20,⟨2,1,[ni 2,ni 3,ni 7,ni 6]⟩),(q9 21,⟨2,1,[ni 4,ni 6,ni 7,ni 5]⟩),(q9 22,⟨2,1,[ni 0,ni 1,ni 3,ni 2]⟩),(q9 23,⟨2,1,[ni 0,ni 2,ni 6,ni 4]⟩),(q9 24,⟨2,1,[ni 0,ni 4,ni 5,ni 1]⟩),(q9 25,⟨2,1,[ni 1,ni 5,ni 7,ni 3]⟩),(q9 26,⟨2,1,[ni 2,ni 3,ni 7,ni 6]⟩),(q9 27,⟨2,1,[ni 4,ni 6,ni 7,ni 5]⟩)],.bb true,[]⟩]
def U9:List DE:=[⟨[.ag 3 [.gs (q9 0) 0 8 9,.gs (q9 1) 0 6 14,nS]],[(q9 0,⟨2,9,[pt (qi 0) (qi 0) (qi 0),pt (qi 0) (qi 0) (qi 1),pt (qi 0) (qi 3) (qi 0),pt (qi 0) (qi 3) (qi 1),pt (qi 4) (qi 0) (qi 0),pt (qi 4) (qi 0) (qi 1),pt (qi 4) (qi 3) (qi 0),pt (qi 4) (qi 3) (qi 1)]⟩),(q9 1,⟨2,14,[.ag 14 [qi 0,qi 0,qm 1 1,qi 0,.gs (q9 2) 0 1 1,.st [98,111,116,116,111,109]],.ag 14 [qi 0,qm 1 1,qi 0,qi 0,.gs (q9 3) 0 1 1,.st [115,48,46,48]],.ag 14 [qi 1,qi 0,qi 0,qi 4,.gs (q9 4) 0 1 1,.st [115,48,46,49]],.ag 14 [qi 0,qi 1,qi 0,qi 3,.gs (q9 5) 0 1 1,.st [115,48,46,50]],.ag 14 [qm 1 1,qi 0,qi 0,qi 0,.gs (q9 6) 0 1 1,.st [115,48,46,51]],.ag 14 [qi 0,qi 0,qi 1,qi 1,.gs (q9 7) 0 1 1,.st [116,111,112]]]⟩),(q9 2,⟨2,1,[.gs (q9 8) 0 4 1]⟩),(q9 3,⟨2,1,[.gs (q9 9) 0 4 1]⟩),(q9 4,⟨2,1,[.gs (q9 10) 0 4 1]⟩),(q9 5,⟨2,1,[.gs (q9 11) 0 4 1]⟩),(q9 6,⟨2,1,[.gs (q9 12) 0 4 1]⟩),(q9 7,⟨2,1,[.gs (q9 13) 0 4 1]⟩),(q9 8,⟨2,1,[ni 0,ni 2,ni 6,ni 4]⟩),(q9 9,⟨2,1,[ni 0,ni 4,ni 5,ni 1]⟩),(q9 10,⟨2,1,[ni 4,ni 6,ni 7,ni 5]⟩),(q9 11,⟨2,1,[ni 2,ni 3,ni 7,ni 6]⟩),(q9 12,⟨2,1,[ni 0,ni 1,ni 3,ni 2]⟩),(q9 13,⟨2,1,[ni 1,ni 5,ni 7,ni 3]⟩)],.ag 3 [.gs (q9 128) 0 8 9,.sl (q9 129) 0 6 6 14,nS],[(q9 128,⟨2,9,[pt (qi 0) (qi 0) (qi 0),pt (qi 0) (qi 0) (qi 1),pt (qi 0) (qi 3) (qi 0),pt (qi 0) (qi 3) (qi 1),pt (qi 4) (qi 0) (qi 0),pt (qi 4) (qi 0) (qi 1),pt (qi 4) (qi 3) (qi 0),pt (qi 4) (qi 3) (qi 1)]⟩),(q9 129,⟨1,14,[.ag 14 [qi 0,qi 0,qm 1 1,qi 0,.sl (q9 130) 0 1 1 1,.st [98,111,116,116,111,109]],.ag 14 [qi 0,qm 1 1,qi 0,qi 0,.sl (q9 131) 0 1 1 1,.st [115,48,46,48]],.ag 14 [qi 1,qi 0,qi 0,qi 4,.sl (q9 132) 0 1 1 1,.st [115,48,46,49]],.ag 14 [qi 0,qi 1,qi 0,qi 3,.sl (q9 133) 0 1 1 1,.st [115,48,46,50]],.ag 14 [qm 1 1,qi 0,qi 0,qi 0,.sl (q9 134) 0 1 1 1,.st [115,48,46,51]],.ag 14 [qi 0,qi 0,qi 1,qi 1,.sl (q9 135) 0 1 1 1,.st [116,111,112]]]⟩),(q9 130,⟨1,1,[.gs (q9 136) 0 4 1]⟩),(q9 131,⟨1,1,[.gs (q9 137) 0 4 1]⟩),(q9 132,⟨1,1,[.gs (q9 138) 0 4 1]⟩),(q9 133,⟨1,1,[.gs (q9 139) 0 4 1]⟩),(q9 134,⟨1,1,[.gs (q9 140) 0 4 1]⟩),(q9 135,⟨1,1,[.gs (q9 141) 0 4 1]⟩),(q9 136,⟨2,1,[ni 0,ni 2,ni 6,ni 4]⟩),(q9 137,⟨2,1,[ni 0,ni 4,ni 5,ni 1]⟩),(q9 138,⟨2,1,[ni 4,ni 6,ni 7,ni 5]⟩),(q9 139,⟨2,1,[ni 2,ni 3,ni 7,ni 6]⟩),(q9 140,⟨2,1,[ni 0,ni 1,ni 3,ni 2]⟩),(q9 141,⟨2,1,[ni 1,ni 5,ni 7,ni 3]⟩)]⟩]
def tb2:List (Nat×Pt):=(13,.memoH 13 b1_0)::(15,.memoD Cl)::(18,.memoD U8)::(20,.memoD U9)::tb1
end
noncomputable section
def jG(x0 x1 x2 x3 x4 x5 x6 x7 x8 x9 x10 x11 x12 x13 x14 x15 x16 x17 x18:V):DE:=⟨[.gs (q9 0) 0 7 14],[(q9 0,⟨2,14,[.ag 14 [.gs (q9 1) 0 4 9,qm 1 1,qi 0,qi 0,qi 0,.st [102]],.ag 14 [.gs (q9 2) 0 4 9,qi 0,qi 0,qm 1 1,qi 0,.st [102]],.ag 14 [.gs (q9 3) 0 4 9,qi 0,qm 1 1,qi 0,qi 0,.st [102]],.ag 14 [.gs (q9 4) 0 4 9,qi 0,qi 0,qi 1,qi 1,.st [102]],.ag 14 [.gs (q9 5) 0 4 9,x0,x1,qi 0,x2,.st [102]],.ag 14 [.gs (q9 6) 0 4 9,x3,x4,qi 0,x5,.st [102]],.ag 14 [.gs (q9 7) 0 4 9,qi 1,qi 0,qi 0,qi 4,.st [102]]]⟩),(q9 1,⟨2,9,[pt (qi 0) x6 (qi 0),pt (qi 0) (qi 0) (qi 0),pt (qi 0) (qi 0) (qi 1),pt (qi 0) x6 (qi 1)]⟩),(q9 2,⟨2,9,[pt (qi 4) (qi 0) (qi 0),pt (qi 0) (qi 0) (qi 0),pt (qi 0) (qi 3) (qi 0),pt (qi 4) (qi 3) (qi 0)]⟩),(q9 3,⟨2,9,[pt x7 (qi 0) (qi 1),pt (qi 0) (qi 0) (qi 1),pt (qi 0) (qi 0) (qi 0),pt x7 (qi 0) (qi 0)]⟩),(q9 4,⟨2,9,[pt (qi 4) (qi 3) (qi 1),pt (qi 0) (qi 3) (qi 1),pt (qi 0) (qi 0) (qi 1),pt (qi 4) (qi 0) (qi 1)]⟩),(q9 5,⟨2,9,[pt x8 x9 x10,pt (qi 0) x11 x10,pt (qi 0) x11 x12,pt x8 x9 x12]⟩),(q9 6,⟨2,9,[pt x13 x14 x1,pt x15 x16 x1,pt x15 x16 x17,pt x13 x14 x17]⟩),(q9 7,⟨2,9,[pt (qi 4) (qi 3) (qi 1),pt (qi 4) x18 (qi 1),pt (qi 4) x18 (qi 0),pt (qi 4) (qi 3) (qi 0)]⟩)],.tu [.ag 3 [.sl (q9 128) 0 8 8 9,.sl (q9 129) 0 6 6 14,nS],ni 0],[(q9 128,⟨1,9,[pt (qi 0) (qi 0) (qi 0),pt (qi 0) (qi 0) (qi 1),pt (qi 0) (qi 3) (qi 0),pt (qi 0) (qi 3) (qi 1),pt (qi 4) (qi 0) (qi 0),pt (qi 4) (qi 0) (qi 1),pt (qi 4) (qi 3) (qi 0),pt (qi 4) (qi 3) (qi 1)]⟩),(q9 129,⟨1,14,[.ag 14 [qm 1 1,qi 0,qi 0,qi 0,.sl (q9 130) 0 1 1 1,.st [102]],.ag 14 [qi 0,qi 0,qm 1 1,qi 0,.sl (q9 131) 0 1 1 1,.st [102]],.ag 14 [qi 0,qm 1 1,qi 0,qi 0,.sl (q9 132) 0 1 1 1,.st [102]],.ag 14 [qi 0,qi 0,qi 1,qi 1,.sl (q9 133) 0 1 1 1,.st [102]],.ag 14 [qi 0,qi 1,qi 0,qi 3,.sl (q9 134) 0 1 1 1,.st [102]],.ag 14 [qi 1,qi 0,qi 0,qi 4,.sl (q9 135) 0 1 1 1,.st [102]]]⟩),(q9 130,⟨1,1,[.gs (q9 136) 0 4 1]⟩),(q9 131,⟨1,1,[.gs (q9 137) 0 4 1]⟩),(q9 132,⟨1,1,[.gs (q9 138) 0 4 1]⟩),(q9 133,⟨1,1,[.gs (q9 139) 0 4 1]⟩),(q9 134,⟨1,1,[.gs (q9 140) 0 4 1]⟩),(q9 135,⟨1,1,[.gs (q9 141) 0 4 1]⟩),(q9 136,⟨2,1,[ni 0,ni 1,ni 3,ni 2]⟩),(q9 137,⟨2,1,[ni 0,ni 2,ni 6,ni 4]⟩),(q9 138,⟨2,1,[ni 0,ni 4,ni 5,ni 1]⟩),(q9 139,⟨2,1,[ni 1,ni 5,ni 7,ni 3]⟩),(q9 140,⟨2,1,[ni 2,ni 3,ni 7,ni 6]⟩),(q9 141,⟨2,1,[ni 4,ni 6,ni 7,ni 5]⟩)]⟩
def Ua:List DE:=[]
def Ub:List DE:=[]
def Bu:List DE:=[aD 19 jG 0x30831410c00c50830c1003040,aD 19 jG 0x30832410c00c90830c1003040,aD 19 jG 0x30830c10c00c30830c1003040,aD 19 jG 0x30832010c00c80830c1003040,aD 19 jG 0x30833810c00ce0830c1003040,aD 19 jG 0x30830410c00c10830c1003040,aD 19 jG 0x30833010c00cc0830c1003040]
def Bv:List DE:=[aD 19 jG 0x1400810c00c2143004003040,aD 19 jG 0x2000810c00c2203004003040,aD 19 jG 0x400810c00c2043004003040,aD 19 jG 0x2400810c00c2243004003040,aD 19 jG 0x3000810c00c2303004003040,aD 19 jG 0xc00810c00c20c3004003040,aD 19 jG 0x3800810c00c2383004003040]
def Uc:List DE:=[]
def Ud:List DE:=[]
def Ue:List DE:=[]
def Bw:List DE:=[aD 19 jG 0x430030800c11c00870c1000004,aD 19 jG 0x430030800c11400850c1000004,aD 19 jG 0x430030800c12c008b0c1000004,aD 19 jG 0x430030800c10400810c1000004,aD 19 jG 0x430030800c13c008f0c1000004,aD 19 jG 0x430030812800c008a0c1000004,aD 19 jG 0x430030800c134008d0c1000004]
def Uf:List DE:=[]
def Ug:List DE:=[]
def PN:List DE:=[]
def PO:List DE:=[]
def PP:List DE:=[]
def PQ:List DE:=[]
def PR:List DE:=[]
def PS:List DE:=[]
def Ap:List DE:=[aD 19 jG 0x70000870810c00c2083080043040,aD 19 jG 0x10000810810c00c2083080043040,aD 19 jG 0xa00008a0810c00c2083080043040,aD 19 jG 0x50000850810c00c2083080043040,aD 19 jG 0xd00008d0810c00c2083080043040,aD 19 jG 0xb00008b0810c00c2083080043040,aD 19 jG 0xf00008f0810c00c2083080043040]
def b2_0:List (List DE):=[Ua,Ub,Bu,Bv,Uc,Ud,Ue,Bw,Uf,Ug,PN,PO,PP,PQ,PR,PS,Ap]
def tb3:List (Nat×Pt):=(17,.memoH 17 b2_0)::tb2
end
noncomputable section
def tbF:List (Nat×Pt):=(4,.light true)::(6,.roll)::(7,.next)::(5,.tru)::tb3
def stC(l:List (Nat×Nat)):S:=⟨mnew,⟨.d0,.d0,.d0,.d0⟩,0,l⟩
def runE:Bool:=okB ((zS Go.Proofs.Tryz.prog (prims j6) locT 60).call 5 (jj []).c0 0 stE)
def jA(l:List (Nat×Nat)):Bool:=okB ((zS Go.Proofs.Tryz.prog (prims tbF) locT 60).call 3 (jj [.dl]).c0 1 (stC l))
def tbG:List (Nat×Pt):=[(4,.light false),(5,.tru)]
def runG:Bool:=okB ((zS Go.Proofs.Tryz.prog (prims tbG) locT 60).call 3 (jj [.dl]).c0 1 (stC []))
def scr(x:Nat):List (Nat×Nat):=[(3,Nat.div x 12),(3,Nat.mod (Nat.div x 4) 3),(4,Nat.mod x 4)]
end
end Go.Proofs.YtilobhkcmoldlaaGreat.Sx.Kx
