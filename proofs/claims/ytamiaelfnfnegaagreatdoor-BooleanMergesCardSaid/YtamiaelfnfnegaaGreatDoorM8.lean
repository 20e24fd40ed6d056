/-
Own laws, part 8. No condition.
-/
import Derived.Test.YtamiaelfnfnegaaGreatDoorM7
import Derived.Test.YtamiaelfnfnegaaGreatDoorProg
import Derived.KernelRfl
namespace Go.Proofs.YtamiaelfnfnegaaGreatDoor.Sx.Kx
open Go
set_option linter.unusedVariables false
set_option linter.unusedSimpArgs false
noncomputable section
section
variable {D:List Int} {P:Program}
theorem Tu{f:FuncId}{vs:List V}{v:V}{s:S}{nx:Key}{s1:S}(h:CallOk D P f vs ⟨mnew,nx,0,[]⟩ v s1)(hs:SOK D s)(hp: ∀β β' H H' u,(qc D v).sat β H u->(qc D v).sat β' H' u)
  (ha: ∀β β' H us,AVs β H (vs.map (qc D)) us->AVs β' H (vs.map (qc D)) us):CallOk D P f vs s v s:=by
 refine⟨h.callable,hs,q5B _,h.ok,h.ne,λk hk=> .inl hk,λus w H β hargs hM hon hdom=>?_⟩;refine Calls.mono (h.calls us w H (λ_=>none) (ha _ _ _ _ hargs) ⟨λk b hb=>?_,λk b hb=>?_,λk k' b b' hb=>?_⟩ hon λ_ _ _=>rfl) ?_
 .have hb:mget mnew k=some b:=hb
  rw[wL]at hb;cases hb
 .have hb:mget mnew k=some b:=hb
  rw[wL]at hb;cases hb
 .have hb:mget mnew k=some b:=hb
  rw[wL]at hb;cases hb
 rintro e w' ⟨u,H',β',rfl,hst,hsat,_⟩
 have hkeep: ∀b,b<w.heap.size->w'.heap[b]?=w.heap[b]?:=λb hb=>hst.keep b hb λk hk=>absurd (wL k) hk
 refine⟨u,H,β,rfl,⟨hst.os,hst.tape,hst.output,hst.size,λb hb _=>hkeep b hb,Heap.Le.refl _,λb hb=> .inl hb,λb cs hb=>?_,λk _=>rfl,λk b hb bb c hβ=> .inr ⟨k,by rw[hb];simp,c,hβ⟩⟩,hp _ _ _ _ _ hsat,⟨λk b hb=>?_,λk b hb bb c hβ=>?_,hM.inj⟩⟩
 .obtain⟨T,fz,e⟩:=hon b cs hb
  exact⟨T,fz,by rw[hkeep b (hon.lt (by rw[hb];simp))];exact e⟩
 .exact Blk.rep_congr (hM.rep k b hb) (Heap.Le.refl _) (λ_ _=>rfl) (λbb c hβ=>hkeep bb (hM.own k b hb bb c hβ).2)
 .obtain⟨h3,h4⟩:=hM.own k b hb bb c hβ
  exact⟨h3,q5E h4 hst.size⟩
theorem W4{l l':List Nat}(h:beqN l l'=true):l=l':=Ed.1 h
theorem Ta{a b:V}(h:bq1 a b=true):a=b:=by
 unfold bq1 at h;split at h
 .split at h
  .simp only[qeq,q4L,beq_iff_eq]at h
   obtain⟨⟨h1,h2⟩,h3⟩:=h;have h1:=q5w h1;have h2:=q5w h2
   subst h1;subst h2;subst h3;rfl
  .cases h
 .split at h
  .rw[q5w h]
  .cases h
 .split at h
  .rw[q5w h]
  .cases h
 .split at h
  .rw[show _=_ from beq_iff_eq.1 h]
  .cases h
 .split at h
  .rw[W4 h]
  .cases h
 .cases h
theorem MD: ∀{l r:List V},bqL l r=true->l=r
 |[],[],_=>rfl
 |[],_::_,h=>by cases h
 |_::_,[],h=>by cases h
 |a::l,b::r,h=>by
  have h: @Bool.rec (λ_=>Bool) false (bqL l r) (bq1 a b)=true:=h
  cases hb:bq1 a b with
  |false=>rw[hb]at h;cases h
  |true=>rw[hb]at h;rw[Ta hb,MD (l:=l) h]
theorem q15{a b:V}(h:bqV a b=true):a=b:=by
 unfold bqV at h;split at h
 .split at h
  .simp only[q4L]at h
   rw[q5w h.1,MD h.2]
  .cases h
 .split at h
  .rw[MD h]
  .cases h
 .exact Ta h
theorem Tb: ∀{l r:List V},bqA l r=true->l=r
 |[],[],_=>rfl
 |[],_::_,h=>by cases h
 |_::_,[],h=>by cases h
 |a::l,b::r,h=>by
  have h: @Bool.rec (λ_=>Bool) false (bqA l r) (bqV a b)=true:=h
  cases hb:bqV a b with
  |false=>rw[hb]at h;cases h
  |true=>rw[hb]at h;rw[q15 hb,Tb (l:=l) h]
def FY(v:V):Bool:=match v with| .qq _ _ _| .nn _ _| .zz _ _| .bb _| .st _=>true|_=>false
def Cc(v:V):Bool:=match v with| .nn _ _| .zz _ _| .bb _| .st _=>true|_=>false
def NZ(v:V):Bool:=match v with| .tu l=>l.all Cc|v=>Cc v
def Jc(v:V):Bool:=match v with| .ag _ l=>l.all FY|v=>FY v
def arg1(v:V):Bool:=match v with| .qq s n d=>!(Nat.beq d 0)&&(Nat.beq (Nat.gcd n d) 1&&(!s||!(Nat.beq n 0)))| .nn _ _| .zz _ _| .bb _=>true|_=>false
theorem nbeq{a b:Nat}(h:(!(Nat.beq a b))=true):a≠b:=λe=>by subst e;rw[Nat.beq_refl]at h;cases h
theorem YC{v:V}(h:arg1 v=true):v.un=true/\v.ok1:=by
 cases v with
 |qq s n d=>
  have h:(!(Nat.beq d 0)&&(Nat.beq (Nat.gcd n d) 1&&(!s||!(Nat.beq n 0))))=true:=h;simp only[q4L]at h;obtain⟨h1,h2,h3⟩:=h;refine⟨rfl,nbeq h1,q5w h2,λe=>?_⟩;subst e;exact nbeq (by simpa using h3)
 |_=>first|exact⟨rfl,trivial⟩|(simp[arg1]at h;done)
theorem Ll: ∀{l:List V},l.all FY=true-> ∀k,jC k (cs D l)=false
 |[],_,k=>rfl
 |x::r,h,k=>by
  simp only[List.all_cons,q4L]at h;rw[vE,Dt,Ll h.2 k,Bool.or_false];have h1:=h.1;cases x<;>first|(simp[FY]at h1;done)|rfl
theorem S7{v:V}(h:Jc v=true)(β β':Bm)(H:Heap)(u:Value)(hs:(qc D v).sat β H u):(qc D v).sat β' H u:=by
 have hm: ∀k,(qc D v).men k=false:=by
  intro k
  cases v with
  |ag w l=>exact Ll (D:=D) (l:=l) h k
  |_=>first|(simp[Jc,FY]at h;done)|rfl
 exact AV.sat_congr (Heap.Le.refl _) (λk hk=>by rw[hm k]at hk;cases hk) hs
theorem Jd(β β':Bm)(H H':Heap): ∀{l:List V}{us:List Value},l.all Cc=true->CmpSats β H (l.map (V.cmp D)) us->CmpSats β' H' (l.map (V.cmp D)) us
 |[],[],_,_=>trivial
 |[],_::_,_,h=>h.elim
 |_::_,[],_,h=>h.elim
 |x::r,a::us,h,⟨h1,h2⟩=>by
  simp only[List.all_cons,q4L]at h;refine⟨?_,Jd β β' H H' h.2 h2⟩;have h3:=h.1;cases x<;>first|(simp[Cc]at h3;done)|exact h1
theorem S8{v:V}(h:NZ v=true)(β β':Bm)(H H':Heap)(u:Value)(hs:(qc D v).sat β H u):(qc D v).sat β' H' u:=by
 cases v with
 |tu l=>
  obtain⟨arr,h1,h2⟩:=(show∃arr:Array Value,u= .tuple arr/\CmpSats β H (l.map (V.cmp D)) arr.toList from hs);exact⟨arr,h1,Jd β β' H H' (show l.all Cc=true from h) h2⟩
 |_=>first|(simp[NZ,Cc]at h;done)|exact hs
theorem q1Z{f:FuncId}{L:List (List V×V)}{nx:Key}(hc: ∀p∈L,∃s1,CallOk D P f p.1 ⟨mnew,nx,0,[]⟩ p.2 s1)(hp: ∀p∈L,p.1.all Jc=true/\NZ p.2=true):j0 D P f (j4 (.memo L)):=by
 intro vs s v s' hv hvs hsk
 induction L with
 |nil=>cases hv
 |cons p r ih=>
  have hv: @Bool.rec (λ_=>RO) (j4 (.memo r) vs s) (.ok p.2 s) (bqA p.1 vs)= .ok v s':=hv
  cases hb:bqA p.1 vs with
  |false=>rw[hb]at hv;exact ih (λq hq=>hc q (q5e _ hq)) (λq hq=>hp q (q5e _ hq)) hv
  |true=>
   rw[hb]at hv;have hv2:RO.ok p.2 s= .ok v s':=hv;injection hv2 with h1 h2
   subst h1;subst h2
   have e:=Tb hb;obtain⟨s1,h1⟩:=hc p q5f;obtain⟨h2,h3⟩:=hp p q5f;rw[<-e];refine Tu h1 hsk (λβ β' H H' u h=>S8 h3 _ _ _ _ _ h) λβ β' H us h=>?_
   have: ∀(l:List V) us,l.all Jc=true->AVs β H (l.map (qc D)) us->AVs β' H (l.map (qc D)) us:=by
    intro l
    induction l with
    |nil=>intro us _ h;match us,h with
     |[],_=>exact trivial
     |_::_,h=>exact h.elim
    |cons x l ih=>
     intro us ha h;simp only[List.all_cons,q4L]at ha
     match us,h with
     |[],h=>exact h.elim
     |u::us,⟨h1,h2⟩=>exact⟨S7 ha.1 _ _ _ _ h1,ih us ha.2 h2⟩
   exact this _ _ h2 h
theorem q4n{f:FuncId}(hs: ∀x:Rat,Bnd .rat (.n 31) x->Sig P f (argsE [.rat] x) (.tup [.one (.val (.int .i64 (smlV x))),.one (.val (.bool (smlB x)))])):j0 D P f (j4 .sml):=by
 refine DS (h:=λs a c=> @Bool.rec (λ_=>V) (.tu [.nn .i64 0,.bb false]) (.tu [@Bool.rec (λ_=>V) (.nn .i64 a) (@Nat.rec (λ_=>V) (.nn .i64 0) (λp _=> .zz .i64 p) a) s,.bb (Nat.blt a 268435456)]) (Nat.beq c 1&&Nat.blt a 4294967296)) (λx=> .tu [ofI .i64 (smlV x),.bb (smlB x)]) hs (λx=>?_) (λx=>?_) λx=>?_
 .by_cases h:x.den=1/\x.num.natAbs<4294967296
  .have e1:smlV x=x.num:=if_pos h
   have e2:smlB x=Nat.blt x.num.natAbs 268435456:=by
    unfold smlB;rw[Bool.eq_iff_iff];simp[h.1,Nat.blt_eq]
   have e3:(Nat.beq x.den 1&&Nat.blt x.num.natAbs 4294967296)=true:=by
    rw[q4L];exact⟨by rw[h.1];rfl,by simpa[Nat.blt_eq]using h.2⟩
   rw[e1,e2,e3];simp only;by_cases h0:x.num<0
   .rw[decide_eq_true h0]
    simp only;obtain⟨p,hp⟩:=Int.eq_negSucc_of_lt_zero h0;rw[hp];rfl
   .rw[decide_eq_false h0]
    simp only;obtain⟨p,hp⟩:=Int.eq_ofNat_of_zero_le (Int.not_lt.1 h0);rw[hp];rfl
  .have e1:smlV x=0:=if_neg h
   have e2:smlB x=false:=decide_eq_false λe=>h ⟨e.1,by omega⟩
   have e3:(Nat.beq x.den 1&&Nat.blt x.num.natAbs 4294967296)=false:=by
    rw[Bool.eq_false_iff];intro e;rw[q4L]at e;exact h ⟨q5w e.1,by simpa[Nat.blt_eq]using e.2⟩
   rw[e1,e2,e3];rfl
 .show AV.tup [.one (.val (.int .i64 (smlV x))),.one (.val (.bool (smlB x)))]=qc D (.tu [ofI .i64 (smlV x),.bb (smlB x)])
  cases smlV x<;>rfl
 .refine⟨λy hy=>?_,by simp⟩
  simp only[q5d,q5l,or_false]at hy;rcases hy with rfl|rfl
  .cases smlV x<;>exact trivial
  .exact trivial
theorem q4m{f:FuncId}(hs: ∀x y:Rat,Bnd .rat (.n 14) x->Bnd .rat (.n 14) y->Sig P f (argsE [.rat,.rat] (x,y)) (.c (.agg (ql .rat ((x+y)*zY))))):j0 D P f (j4 .mid):=by
 have he: ∀x y:Rat,(match qadd (decide (x.num<0)) x.num.natAbs x.den (decide (y.num<0)) y.num.natAbs y.den with| .qq s n m=>qmul s n m false 1 2|v=>v)=rV ((x+y)*zY):=λx y=>by
  rw[Ki,Bj];exact Qp (x+y) zY
 intro vs s v s' hv hvs hsk;have hv:(match(generalizing:=false) vs with|[.qq _ b c,.qq _ e g]=> @Bool.rec (λ_=>RO) (.no [24]) (two (λa b c d e f=>match qadd a b c d e f with| .qq s n m=>qmul s n m false 1 2|v=>v) vs s) (Nat.blt b 16384&&Nat.blt c 16384&&(Nat.blt e 16384&&Nat.blt g 16384))|_=> .no [20])=RO.ok v s':=hv;split at hv
 .rename_i a n d a' n' d' _
  obtain⟨x,rfl,rfl,rfl⟩:=Jh (show QWF a n d from(hvs (.qq a n d) (by simp)).1);obtain⟨y,rfl,rfl,rfl⟩:=Jh (show QWF a' n' d' from(hvs (.qq a' n' d') (by simp)).1)
  cases hb:(Nat.blt x.num.natAbs 16384&&Nat.blt x.den 16384&&(Nat.blt y.num.natAbs 16384&&Nat.blt y.den 16384))with
  |false=>rw[hb]at hv;cases hv
  |true=>
   rw[hb]at hv;simp only[q4L]at hb;have b1: ∀{k:Nat},Nat.blt k 16384=true->k<16384:=λh=>q5y h
   have hv: @Bool.rec (λ_=>RO) (.no [24]) (.ok (match qadd (decide (x.num<0)) x.num.natAbs x.den (decide (y.num<0)) y.num.natAbs y.den with| .qq s n m=>qmul s n m false 1 2|v=>v) s) (smB x.num.natAbs&&smB x.den&&(smB y.num.natAbs&&smB y.den))=RO.ok v s':=hv;rw[he]at hv
   cases hb2:(smB x.num.natAbs&&smB x.den&&(smB y.num.natAbs&&smB y.den))with
   |false=>rw[hb2]at hv;cases hv
   |true=>
    rw[hb2]at hv;have hv:RO.ok (rV ((x+y)*zY)) s= .ok v s':=hv;injection hv with h1 h2
    subst h1;subst h2
    have:=hs x y ⟨show x.num.natAbs<2^14 from b1 hb.1.1,show x.den<=2^14 from q5z (b1 hb.1.2)⟩ ⟨show y.num.natAbs<2^14 from b1 hb.2.1,show y.den<=2^14 from q5z (b1 hb.2.2)⟩;rw[CR (D:=D)]at this;exact wN (vs:=[rV x,rV y]) this hsk (rV_k _).1 (rV_k _).2
 .cases hv
end
end
noncomputable section
section
variable {D:List Int}
theorem q4o:j0 D Go.Proofs.Tryz.prog 30 (j4 .cmp):=Ya λx y hx hy=>q3z.sig (x,y) ⟨hx,hy⟩ (λp hp=>by simp at hp)
theorem q4p:j0 D Go.Proofs.Tryz.prog 33 (j4 .int):=Yc λz hz=>q3D.sig z (hz.mono (by decide)) (λp hp=>by simp at hp)
theorem q4q:j0 D Go.Proofs.Tryz.prog 57 (j4 .sign):=UA λx hx=>QV.sig x hx (λp hp=>by simp at hp)
theorem q4r:j0 D Go.Proofs.Tryz.prog 63 (j4 .same):=Uz λx y hx hy=>q0Q.sig (x,y) ⟨hx,hy⟩ (λp hp=>by simp at hp)
theorem q4s:j0 D Go.Proofs.Tryz.prog 64 (j4 .neg):=Ye λx hx=>VZ.sig x hx (λp hp=>by simp at hp)
theorem q21:j0 D Go.Proofs.Tryz.prog 118 (j4 .sub):=Yg λx y hx hy=>q3M.sig (x,y) ⟨hx,hy⟩ (λp hp=>by simp at hp)
theorem q22:j0 D Go.Proofs.Tryz.prog 119 (j4 .add):=Y9 λx y hx hy=>VY.sig (x,y) ⟨hx,hy⟩ (λp hp=>by simp at hp)
theorem q23:j0 D Go.Proofs.Tryz.prog 120 (j4 .mul):=Yd λx y hx hy=>q3F.sig (x,y) ⟨hx,hy⟩ (λp hp=>by simp at hp)
theorem q24:j0 D Go.Proofs.Tryz.prog 172 (j4 .make):=q1Y λu v hu hv h0=>by have:=q0g.sig (u,v) ⟨hu,hv⟩ (λp hp=>by simp at hp);rw[show(Kk.res Kk.bs (u,v)).exp= .tup [.agg (ql .rat ((u:Rat)/(v:Rat))),.one (.val (.int .i64 (mkC' v)))]from rfl,show mkC' v=0 from if_neg h0]at this;exact this
theorem q25:j0 D Go.Proofs.Tryz.prog 178 (j4 .sign):=UA λx hx=>Qz.sig x hx (λp hp=>by simp at hp)
theorem q26:j0 D Go.Proofs.Tryz.prog 179 (j4 .int):=Yc λz hz=>q2I.sig z (hz.mono (by decide)) (λp hp=>by simp at hp)
theorem q27:j0 D Go.Proofs.Tryz.prog 180 (j4 .neg):=Ye λx hx=>q2O.sig x hx (λp hp=>by simp at hp)
theorem q28:j0 D Go.Proofs.Tryz.prog 181 (j4 .idq):=Yb λx hx=>q1X.sig x (Gg hx) (λp hp=>by simp at hp)
theorem q29:j0 D Go.Proofs.Tryz.prog 203 (j4 .quo):=Yf λx y hx hy=>q3J.sig (x,y) ⟨hx,hy⟩ (λp hp=>by simp at hp)
theorem q2a:j0 D Go.Proofs.Tryz.prog 204 (j4 .abs):=Y8 λx hx=>q3v.sig x hx (λp hp=>by simp at hp)
theorem q2b:j0 D Go.Proofs.Tryz.prog 218 (j4 .quo):=Yf λx y hx hy=>q2S.sig (x,y) ⟨hx,hy⟩ (λp hp=>by simp at hp)
theorem q2c:j0 D Go.Proofs.Tryz.prog 219 (j4 .sub):=Yg λx y hx hy=>q2U.sig (x,y) ⟨hx,hy⟩ (λp hp=>by simp at hp)
theorem q2d:j0 D Go.Proofs.Tryz.prog 221 (j4 .abs):=Y8 λx hx=>q2x.sig x hx (λp hp=>by simp at hp)
theorem q2e:j0 D Go.Proofs.Tryz.prog 222 (j4 .cmp):=Ya λx y hx hy=>q2B.sig (x,y) ⟨hx,hy⟩ (λp hp=>by simp at hp)
theorem q2f:j0 D Go.Proofs.Tryz.prog 223 (j4 .mid):=q4m λx y hx hy=>q2K.sig (x,y) ⟨hx,hy⟩ (λp hp=>by simp at hp)
theorem q2g:j0 D Go.Proofs.Tryz.prog 225 (j4 .mul):=Yd λx y hx hy=>UN.sig (x,y) ⟨hx,hy⟩ (λp hp=>by simp at hp)
theorem q2h:j0 D Go.Proofs.Tryz.prog 230 (j4 .sml):=q4n λx hx=>q2q.sig x hx (λp hp=>by simp at hp)
theorem q2i:j0 D Go.Proofs.Tryz.prog 254 (j4 .add):=Y9 λx y hx hy=>Qr.sig (x,y) ⟨hx,hy⟩ (λp hp=>by simp at hp)
theorem q2j:j0 D Go.Proofs.Tryz.prog 268 (j4 .idq):=Yb λx hx=>Lo.sig x (Gg hx) (λp hp=>by simp at hp)
theorem q2k:j0 D Go.Proofs.Tryz.prog 282 (j4 .small):=Qk λx u hx hu h0=>VV.sig (x,u) ⟨hx,hu⟩ (λp hp=>by(rcases q5d.1 hp with h|h)<;>first|(rw[h];exact h0)|simp at h)
theorem q2l:j0 D Go.Proofs.Tryz.prog 305 (j4 .same):=Uz λx y hx hy=>q0i.sig (x,y) ⟨(Gg hx),(Gg hy)⟩ (λp hp=>by simp at hp)
theorem q2m:j0 D Go.Proofs.Tryz.prog 325 (j4 .trim):=q20 λx hx=>LB x hx (λp hp=>by simp at hp)
theorem q2n:j0 D Go.Proofs.Tryz.prog 326 (j4 .small):=Qk λx u hx hu h0=>q0y.sig (x,u) ⟨hx,hu⟩ (λp hp=>by(rcases q5d.1 hp with h|h)<;>first|(rw[h];exact h0)|simp at h)
def tbA:List (Nat×Pt):=[(30,.cmp),(33,.int),(57,.sign),(63,.same),(64,.neg),(118,.sub),(119,.add),(120,.mul),(172,.make),(178,.sign),(179,.int),(180,.neg),(181,.idq),(203,.quo),(204,.abs),(218,.quo),(219,.sub),(221,.abs),(222,.cmp),(223,.mid),(225,.mul),(230,.sml),(254,.add),(268,.idq),(282,.small),(305,.same),(325,.trim),(326,.small)]
theorem q33: ∀p∈tbA,j0 D Go.Proofs.Tryz.prog p.1 (j4 p.2):=λp hp=>by
 unfold tbA at hp;simp only[q5d,q5l,or_false]at hp;rcases hp with rfl|rfl|rfl|rfl|rfl|rfl|rfl|rfl|rfl|rfl|rfl|rfl|rfl|rfl|rfl|rfl|rfl|rfl|rfl|rfl|rfl|rfl|rfl|rfl|rfl|rfl|rfl|rfl
 .exact q4o
 .exact q4p
 .exact q4q
 .exact q4r
 .exact q4s
 .exact q21
 .exact q22
 .exact q23
 .exact q24
 .exact q25
 .exact q26
 .exact q27
 .exact q28
 .exact q29
 .exact q2a
 .exact q2b
 .exact q2c
 .exact q2d
 .exact q2e
 .exact q2f
 .exact q2g
 .exact q2h
 .exact q2i
 .exact q2j
 .exact q2k
 .exact q2l
 .exact q2m
 .exact q2n
end
end
noncomputable section
section
variable {D:List Int} {P:Program}
end
end
noncomputable section
section
variable {D:List Int} {P:Program}
def Go2(R:Rn)(β1 β2:Bm):Prop:= ∀a b,rlk R a=some b->β1 a.num=β2 b.num
theorem U0{a b:Key}(h:kqB a b=true):a=b:=Key.num_inj (q5w h)
theorem Ns(a:Key):kqB a a=true:=Nat.beq_refl a.num
theorem CI(p:Key×Key)(R:Rn)(k:Key):rlk (p::R) k=if p.1=k then some p.2 else rlk R k:=by
 show @Bool.rec (λ_=>Option Key) (rlk R k) (some p.2) (kqB p.1 k)=_;by_cases h:p.1=k
 .rw[if_pos h,h,Ns]
 .rw[if_neg h]
  cases hb:kqB p.1 k with
  |false=>rfl
  |true=>exact absurd (U0 hb) h
theorem DX(R R':Rn)(k:Key):rlk (R++R') k=(match rlk R k with|some b=>some b|none=>rlk R' k):=by
 induction R with
 |nil=>rfl
 |cons p R ih=>
  rw[List.cons_append,CI,CI,ih];by_cases h:p.1=k
  .rw[if_pos h,if_pos h]
  .rw[if_neg h,if_neg h]
theorem DY{R:Rn}{a b:Key}(h:rlk R a=some b):(a,b)∈R:=by
 induction R with
 |nil=>cases h
 |cons p R ih=>
  rw[CI]at h;split at h
  .rename_i e
   cases h;subst e;exact q5f
  .exact q5e _ (ih h)
theorem DW{R:Rn}{a b:Key}(h:rhas R a b=true):rlk R a=some b:=by
 unfold rhas at h;split at h
 .rename_i k hk
  rw[hk,U0 h]
 .cases h
theorem Lg{k:Key}{R:Rn}(h:notK k R=true): ∀p∈R,p.2≠k:=by
 induction R with
 |nil=>intro p hp;cases hp
 |cons q R ih=>
  have h: @Bool.rec (λ_=>Bool) (notK k R) false (kqB q.2 k)=true:=h;intro p hp
  cases hb:kqB q.2 k with
  |true=>rw[hb]at h;cases h
  |false=>
   rw[hb]at h;rcases q5d.1 hp with rfl|hp
   .intro e;rw[e,Ns]at hb;cases hb
   .exact ih h p hp
theorem Em{R:Rn}(h:dsnB R=true){a a' b:Key}(h1:rlk R a=some b)(h2:rlk R a'=some b):a=a':=by
 induction R with
 |nil=>cases h1
 |cons p R ih=>
  have h: @Bool.rec (λ_=>Bool) false (dsnB R) (notK p.2 R)=true:=h
  cases hb:notK p.2 R with
  |false=>rw[hb]at h;cases h
  |true=>
   rw[hb]at h;have hn:=Lg hb;rw[CI]at h1 h2;split at h1
   .rename_i e1
    split at h2
    .rename_i e2;rw[<-e1,<-e2]
    .cases h1;exact absurd rfl (hn (a',_) (DY h2))
   .split at h2
    .cases h2;exact absurd rfl (hn (a,_) (DY h1))
    .exact ih h h1 h2
def ARels(β1 β2:Bm):List Atom->List Atom->Prop
 |[],[]=>True
 |a::l,b::r=>(∀H v,a.sat β1 H v↔b.sat β2 H v)/\ARels β1 β2 l r
 |_,_=>False
theorem ARels.app{β1 β2:Bm}: ∀{l r l' r':List Atom},ARels β1 β2 l r->ARels β1 β2 l' r'->ARels β1 β2 (l++l') (r++r')
 |[],[],_,_,_,h=>h
 |a::l,b::r,_,_,⟨h1,h2⟩,h=>⟨h1,ARels.app h2 h⟩
 |[],_::_,_,_,h,_=>h.elim
 |_::_,[],_,_,h,_=>h.elim
theorem ARels.sats{β1 β2:Bm}: ∀{l r:List Atom},ARels β1 β2 l r-> ∀H vs,Sats β1 H l vs↔Sats β2 H r vs
 |[],[],_,_,[]=>Iff.rfl
 |[],[],_,_,_::_=>Iff.rfl
 |a::l,b::r,⟨h1,h2⟩,H,[]=>Iff.rfl
 |a::l,b::r,⟨h1,h2⟩,H,v::vs=>by
  show(a.sat β1 H v/\Sats β1 H l vs)↔(b.sat β2 H v/\Sats β2 H r vs);rw[h1 H v,ARels.sats h2 H vs]
 |[],_::_,h,_,_=>h.elim
 |_::_,[],h,_,_=>h.elim
theorem ARels.len{β1 β2:Bm}: ∀{l r:List Atom},ARels β1 β2 l r->l.length=r.length
 |[],[],_=>rfl
 |a::l,b::r,⟨h1,h2⟩=>by rw[q56,q56,ARels.len h2]
 |[],_::_,h=>h.elim
 |_::_,[],h=>h.elim
theorem q39{v w:Value}(h:uuB v w=true):v=w:=by
 unfold uuB at h;split at h
 .split at h
  .simp only[q4L]at h
   rw[q5w h.1,q5w h.2]
  .cases h
 .split at h
  .rfl
  .cases h
 .split at h
  .rfl
  .cases h
 .cases h
theorem PY{a b:IntKind}(h:keq a b=true):a=b:=by cases a<;>cases b<;>first|rfl|cases h
theorem Pu{R:Rn}{β1 β2:Bm}(hG:Go2 R β1 β2){a b:V}(h:cq1 R a b=true):(ARels β1 β2 (a.c1 D) (b.c1 D)/\a.wd=b.wd/\a.un=true/\b.un=true/\(a.ok1↔b.ok1))/\(a=b/\a.on=false\/a.on=true/\b.on=true):=by
 unfold cq1 at h;split at h<;>first|(cases h;done)|(split at h<;>first|(cases h;done)|skip)
 .simp only[q4L,beq_iff_eq]at h
  obtain⟨h1,h2,h3⟩:=h;rw[q5w h1,q5w h2,h3];exact⟨⟨⟨λ_ _=>Iff.rfl,λ_ _=>Iff.rfl,λ_ _=>Iff.rfl,trivial⟩,rfl,rfl,rfl,Iff.rfl⟩,.inl ⟨rfl,rfl⟩⟩
 .simp only[q4L]at h
  rw[q5w h.1,PY h.2];exact⟨⟨⟨λ_ _=>Iff.rfl,trivial⟩,rfl,rfl,rfl,Iff.rfl⟩,.inr ⟨rfl,rfl⟩⟩
 .simp only[q4L]at h
  rw[q5w h.1,PY h.2];exact⟨⟨⟨λ_ _=>Iff.rfl,trivial⟩,rfl,rfl,rfl,Iff.rfl⟩,.inr ⟨rfl,rfl⟩⟩
 .rw[beq_iff_eq]at h
  rw[h];exact⟨⟨⟨λ_ _=>Iff.rfl,trivial⟩,rfl,rfl,rfl,Iff.rfl⟩,.inr ⟨rfl,rfl⟩⟩
 .rw[Ed.1 h]
  exact⟨⟨⟨λ_ _=>Iff.rfl,trivial⟩,rfl,rfl,rfl,Iff.rfl⟩,.inr ⟨rfl,rfl⟩⟩
 .rw[q5w h]
  exact⟨⟨⟨λ_ _=>Iff.rfl,trivial⟩,rfl,rfl,rfl,Iff.rfl⟩,.inr ⟨rfl,rfl⟩⟩
 .rw[q39 h]
  exact⟨⟨⟨λ_ _=>Iff.rfl,trivial⟩,rfl,rfl,rfl,Iff.rfl⟩,.inr ⟨rfl,rfl⟩⟩
 .rename_i k o _ k' o'
  simp only[q4L]at h;have hk:=hG _ _ (DW h.1);rw[q5w h.2];refine⟨⟨⟨λH v=>?_,trivial⟩,rfl,rfl,rfl,Iff.rfl⟩,.inr ⟨rfl,rfl⟩⟩;show(∃b c,β1 k.num=some (b,c)/\_)↔(∃b c,β2 k'.num=some (b,c)/\_);rw[hk]
 .rename_i k i o w _ k' i' o' w'
  simp only[q4L]at h;have hk:=hG _ _ (DW h.1);rw[q5w h.2.1,q5w h.2.2.1,q5w h.2.2.2];refine⟨⟨⟨λH v=>?_,trivial⟩,rfl,rfl,rfl,Iff.rfl⟩,.inr ⟨rfl,rfl⟩⟩;show(∃b c,β1 k.num=some (b,c)/\_)↔(∃b c,β2 k'.num=some (b,c)/\_);rw[hk]
 .rename_i k lo n c w _ k' lo' n' c' w'
  simp only[q4L]at h;have hk:=hG _ _ (DW h.1);rw[q5w h.2.1,q5w h.2.2.1,q5w h.2.2.2.1,q5w h.2.2.2.2];refine⟨⟨⟨λH v=>?_,trivial⟩,rfl,rfl,rfl,Iff.rfl⟩,.inr ⟨rfl,rfl⟩⟩;show(∃b c,β1 k.num=some (b,c)/\_)↔(∃b c,β2 k'.num=some (b,c)/\_);rw[hk]
 .rename_i k lo n w _ k' lo' n' w'
  simp only[q4L]at h;have hk:=hG _ _ (DW h.1);rw[q5w h.2.1,q5w h.2.2.1,q5w h.2.2.2];refine⟨⟨⟨λH v=>?_,trivial⟩,rfl,rfl,rfl,Iff.rfl⟩,.inr ⟨rfl,rfl⟩⟩;show(∃b c,β1 k.num=some (b,c)/\_)↔(∃b c,β2 k'.num=some (b,c)/\_);rw[hk]
 .rename_i k _ k'
  have hk:=hG _ _ (DW h);refine⟨⟨⟨λH v=>?_,trivial⟩,rfl,rfl,rfl,Iff.rfl⟩,.inr ⟨rfl,rfl⟩⟩;show(∃b c,β1 k.num=some (b,c)/\_)↔(∃b c,β2 k'.num=some (b,c)/\_);rw[hk]
 .exact⟨⟨⟨λ_ _=>Iff.rfl,trivial⟩,rfl,rfl,rfl,Iff.rfl⟩,.inr ⟨rfl,rfl⟩⟩
theorem Pv{R:Rn}{β1 β2:Bm}(hG:Go2 R β1 β2): ∀{l r:List V},cqU R l r=true->ARels β1 β2 (cs D l) (cs D r)/\wds l=wds r/\(okL l↔okL r)
 |[],[],_=>⟨trivial,rfl,Iff.rfl⟩
 |[],_::_,h=>by cases h
 |_::_,[],h=>by cases h
 |a::l,b::r,h=>by
  have h: @Bool.rec (λ_=>Bool) false (cqU R l r) (cq1 R a b)=true:=h
  cases hb:cq1 R a b with
  |false=>rw[hb]at h;cases h
  |true=>
   rw[hb]at h;obtain⟨⟨h1,h2,h3,h4,h5⟩,_⟩:=Pu (D:=D) hG hb;obtain⟨h6,h7,h8⟩:=Pv (l:=l) (r:=r) hG h;refine⟨?_,?_,?_⟩
   .rw[vE,vE];exact h1.app h6
   .rw[zM,zM,h2,h7]
   .rw[vw,vw,h8,h3,h4,h5]
structure VRel (D:List Int) (β1 β2:Bm) (a b:V):Prop where
 cells:ARels β1 β2 (a.cells D) (b.cells D)
 cmp: ∀H v,(a.cmp D).sat β1 H v↔(b.cmp D).sat β2 H v
 size:a.size=b.size
 ok:a.okC↔b.okC
 na: ∃x y,a.av D=some (.c x)/\b.av D=some (.c y)/\x=a.cmp D/\y=b.cmp D
 ne:a≠ .und/\b≠ .und
 nt:(∀l,a≠ .tu l)/\ ∀l,b≠ .tu l
theorem q41{R:Rn}{β1 β2:Bm}(hG:Go2 R β1 β2){a b:V}(h:cq1 R a b=true):VRel D β1 β2 a b:=by
 obtain⟨⟨h1,h2,h3,h4,h5⟩,h6⟩:=Pu (D:=D) hG h
 have hx: ∀x:V,x.un=true->x.size=x.wd/\(∃y,x.av D=some (.c y)/\y=x.cmp D)/\x≠ .und/\ ∀l,x≠ .tu l:=λx hx=>by
  cases x<;>first|(cases hx;done)|exact⟨rfl,⟨_,rfl,rfl⟩,by simp,by simp⟩
 obtain⟨a1,⟨x,a2,a3⟩,a4,a5⟩:=hx a h3;obtain⟨b1,⟨y,b2,b3⟩,b4,b5⟩:=hx b h4;refine⟨by rw[V.un_cells h3,V.un_cells h4];exact h1,?_,by rw[a1,b1,h2],by rw[V.un_okC h3,V.un_okC h4];exact h5,⟨x,y,a2,b2,a3,b3⟩,⟨a4,b4⟩,a5,b5⟩;rcases h6 with⟨e,h6⟩|⟨h6,h7⟩
 .subst e
  intro H v;cases a<;>first|(cases h3;done)|(cases h6;done)|exact⟨λ⟨arr,e,hs⟩=>⟨arr,e,(h1.sats H _).1 hs⟩,λ⟨arr,e,hs⟩=>⟨arr,e,(h1.sats H _).2 hs⟩⟩
 .intro H v
  rw[V.on_cmp h6,V.on_cmp h7];rw[V.on_c1 h6,V.on_c1 h7]at h1;exact h1.1 H v
theorem Iv{R:Rn}{β1 β2:Bm}(hG:Go2 R β1 β2){a b:V}(h:cqC R a b=true):VRel D β1 β2 a b:=by
 unfold cqC at h;split at h
 .split at h
  .rename_i w l _ w' l'
   simp only[q4L]at h;obtain⟨h1,h2⟩:=h;have h1:=q5w h1;subst h1;obtain⟨h3,h4,h5⟩:=Pv (D:=D) hG h2;refine⟨h3,λH v=>?_,rfl,?_,⟨_,_,rfl,rfl,rfl,rfl⟩,⟨by simp,by simp⟩,by simp,by simp⟩
   .show(∃arr:Array Value,v= .agg arr/\Sats β1 H (cs D l) arr.toList)↔(∃arr:Array Value,v= .agg arr/\Sats β2 H (cs D l') arr.toList)
    constructor
    .rintro⟨arr,e,hs⟩;exact⟨arr,e,(h3.sats H _).1 hs⟩
    .rintro⟨arr,e,hs⟩;exact⟨arr,e,(h3.sats H _).2 hs⟩
   .show(w=wds l/\okL l)↔(w=wds l'/\okL l')
    rw[h4,h5]
  .cases h
 .exact q41 hG h
theorem BO{R:Rn}{β1 β2:Bm}(hG:Go2 R β1 β2): ∀{l r:List V},cqT R l r=true->ARels β1 β2 (flat D l) (flat D r)/\(∀H us,CmpSats β1 H (l.map (V.cmp D)) us↔CmpSats β2 H (r.map (V.cmp D)) us)/\(∀H us,AVs β1 H (l.map (qc D)) us↔AVs β2 H (r.map (qc D)) us)/\(∀es,okE es l↔okE es r)/\((∀x∈l,x.okC)↔ ∀x∈r,x.okC)/\l.length=r.length
 |[],[],_=>⟨trivial,λ_ us=>by cases us<;>exact Iff.rfl,λ_ us=>by cases us<;>exact Iff.rfl,λ_=>Iff.rfl,Iff.rfl,rfl⟩
 |[],_::_,h=>by cases h
 |_::_,[],h=>by cases h
 |a::l,b::r,h=>by
  have h: @Bool.rec (λ_=>Bool) false (cqT R l r) (cqC R a b)=true:=h
  cases hb:cqC R a b with
  |false=>rw[hb]at h;cases h
  |true=>
   rw[hb]at h;have hv:=Iv (D:=D) hG hb;obtain⟨h1,h2,h3,h4,h5,h6⟩:=BO (l:=l) (r:=r) hG h;obtain⟨x,y,e1,e2,e3,e4⟩:=hv.na;refine⟨?_,?_,?_,?_,?_,by rw[q56,q56,h6]⟩
   .have e5: ∀(x:V)(r:List V),flat D (x::r)=x.cells D++flat D r:=λx r=>by simp[flat]
    rw[e5,e5];exact hv.cells.app h1
   .intro H us
    cases us with
    |nil=>exact Iff.rfl
    |cons u us=>
     show((a.cmp D).sat β1 H u/\CmpSats β1 H (l.map (V.cmp D)) us)↔((b.cmp D).sat β2 H u/\CmpSats β2 H (r.map (V.cmp D)) us);rw[hv.cmp H u,h2 H us]
   .intro H us
    cases us with
    |nil=>exact Iff.rfl
    |cons u us=>
     show((qc D a).sat β1 H u/\AVs β1 H (l.map (qc D)) us)↔((qc D b).sat β2 H u/\AVs β2 H (r.map (qc D)) us);have e5:qc D a= .c (a.cmp D):=by unfold qc;rw[e1,e3];rfl
     have e6:qc D b= .c (b.cmp D):=by unfold qc;rw[e2,e4];rfl
     rw[h3 H us,e5,e6];exact and_congr (hv.cmp H u) Iff.rfl
   .intro es
    unfold okE;simp only[List.forall_mem_cons];have:=h4 es;unfold okE at this;rw[this,hv.ok,hv.size]
   .simp only[List.forall_mem_cons]
    rw[h5,hv.ok]
theorem Gp{R:Rn}{β1 β2:Bm}(hG:Go2 R β1 β2){a b:V}(h:cqV R a b=true):(∀H u,(qc D a).sat β1 H u↔(qc D b).sat β2 H u)/\(a.ok↔b.ok)/\a≠ .und/\b≠ .und:=by
 unfold cqV at h;split at h
 .split at h
  .rename_i l _ l'
   obtain⟨h1,h2,h3,h4,h5,h6⟩:=BO (D:=D) hG h;refine⟨λH u=>?_,h5,by simp,by simp⟩;show(∃arr:Array Value,u= .tuple arr/\CmpSats β1 H (l.map (V.cmp D)) arr.toList)↔(∃arr:Array Value,u= .tuple arr/\CmpSats β2 H (l'.map (V.cmp D)) arr.toList);constructor
   .rintro⟨arr,e,hs⟩;exact⟨arr,e,(h2 H _).1 hs⟩
   .rintro⟨arr,e,hs⟩;exact⟨arr,e,(h2 H _).2 hs⟩
  .cases h
 .have hv:=Iv (D:=D) hG h
  obtain⟨x,y,e1,e2,e3,e4⟩:=hv.na;have e5:qc D a= .c (a.cmp D):=by unfold qc;rw[e1,e3];rfl
  have e6:qc D b= .c (b.cmp D):=by unfold qc;rw[e2,e4];rfl
  have hok: ∀x:V,x≠ .und->(∀l,x≠ .tu l)->(x.ok↔x.okC):=λx h1 h2=>by
   cases x<;>first|exact Iff.rfl|exact absurd rfl h1|exact absurd rfl (h2 _)
  refine⟨λH u=>?_,?_,hv.ne.1,hv.ne.2⟩
  .rw[e5,e6];exact hv.cmp H u
  .rw[hok a hv.ne.1 hv.nt.1,hok b hv.ne.2 hv.nt.2];exact hv.ok
theorem AG(l:List V):Sq.toL V.und (Sq.pushL .e 0 l) 0 l.length=l:=AX _ _
theorem Dz(l:List V):Br (Sq.pushL .e 0 l) l.length:=by have:=Br.pushL (l:=l) (Br.e (α:=V));rwa [q5W]at this
theorem YD{x:BE}{es n:Nat}{q:Sq V}(h:KB.arr es n q=beB x):Br q n:=by
 obtain⟨k,es',l⟩:=x
 match k with
 |0=>
  have h:KB.arr es n q=(match(generalizing:=false) l with|[v]=>KB.bx v|_=> .bx .und):=h;split at h<;>cases h
 |1=>
  have h:KB.arr es n q= .arr es' l.length (Sq.pushL .e 0 l):=h;injection h with h1 h2 h3
  rw[h2,h3];exact Dz l
 |k+2=>
  have h:KB.arr es n q= .gro es' l.length (Sq.pushL .e 0 l):=h;cases h
theorem YE{x:BE}{es n:Nat}{q:Sq V}(h:KB.gro es n q=beB x):Br q n:=by
 obtain⟨k,es',l⟩:=x
 match k with
 |0=>
  have h:KB.gro es n q=(match(generalizing:=false) l with|[v]=>KB.bx v|_=> .bx .und):=h;split at h<;>cases h
 |1=>
  have h:KB.gro es n q= .arr es' l.length (Sq.pushL .e 0 l):=h;cases h
 |k+2=>
  have h:KB.gro es n q= .gro es' l.length (Sq.pushL .e 0 l):=h;injection h with h1 h2 h3
  rw[h2,h3];exact Dz l
theorem DG{R:Rn}{β1 β2:Bm}(hG:Go2 R β1 β2){a:BE}{b:KB}(h:cqB R a b=true){k1 k2:Nat}(hk:β1 k1=β2 k2)(w:World)(H:Heap):((beB a).blk D).rep β1 w H k1↔(b.blk D).rep β2 w H k2:=by
 have hrig: ∀{cs cs':List Atom},ARels β1 β2 cs cs'->((Blk.rigid cs).rep β1 w H k1↔(Blk.rigid cs').rep β2 w H k2):=λ{cs cs'} hr=>by
  show(∃b c arr T,β1 k1=some (b,c)/\w.heap[b]?=some (.cells arr T (0,0))/\Sats β1 H cs arr.toList)↔(∃b c arr T,β2 k2=some (b,c)/\w.heap[b]?=some (.cells arr T (0,0))/\Sats β2 H cs' arr.toList);rw[hk];constructor
  .rintro⟨b,c,arr,T,h1,h2,h3⟩;exact⟨b,c,arr,T,h1,h2,(hr.sats H _).1 h3⟩
  .rintro⟨b,c,arr,T,h1,h2,h3⟩;exact⟨b,c,arr,T,h1,h2,(hr.sats H _).2 h3⟩
 .unfold cqB at h
  split at h
  .split at h
   .rename_i v _ u hl
    simp only[q4L]at h;have e:beB a= .bx u:=by unfold beB;rw[q5w h.1,hl];rfl
    rw[e];exact hrig (Iv (D:=D) hG h.2).cells
   .cases h
  .rename_i es n q
   simp only[q4L]at h;have e:beB a= .arr a.es a.l.length (Sq.pushL .e 0 a.l):=by unfold beB;rw[q5w h.1];rfl
   rw[e];show(Blk.rigid (flat D (Sq.toL .und (Sq.pushL .e 0 a.l) 0 a.l.length))).rep β1 w H k1↔(Blk.rigid (flat D (Sq.toL .und q 0 n))).rep β2 w H k2;rw[AG];exact hrig (BO (D:=D) hG h.2.2).1
  .rename_i es n q
   simp only[q4L]at h;have e:beB a= .gro a.es a.l.length (Sq.pushL .e 0 a.l):=by unfold beB;rw[q5w h.1];rfl
   rw[e];show(groB a.es (flat D (Sq.toL .und (Sq.pushL .e 0 a.l) 0 a.l.length))).rep β1 w H k1↔(groB es (flat D (Sq.toL .und q 0 n))).rep β2 w H k2;rw[AG,q5w h.2.1];have hr:=(BO (D:=D) hG h.2.2).1;rcases Hx (es:=es) hr.len with⟨e1,e2⟩|⟨e1,e2⟩
   .rw[e1,e2];exact hrig hr
   .rw[e1,e2]
    show((β1 k1=none/\flat D a.l=[])\/ ∃b c arr T,β1 k1=some (b,c)/\w.heap[b]?=some (.cells arr T (0,0))/\arr.size=c*es/\(flat D a.l).length<=arr.size/\Sats β1 H (flat D a.l) (arr.toList.take (flat D a.l).length))↔((β2 k2=none/\flat D (Sq.toL .und q 0 n)=[])\/ ∃b c arr T,β2 k2=some (b,c)/\w.heap[b]?=some (.cells arr T (0,0))/\arr.size=c*es/\(flat D (Sq.toL .und q 0 n)).length<=arr.size/\Sats β2 H (flat D (Sq.toL .und q 0 n)) (arr.toList.take (flat D (Sq.toL .und q 0 n)).length));have hn:flat D a.l=[]↔flat D (Sq.toL .und q 0 n)=[]:=by rw[<-List.length_eq_zero_iff,<-List.length_eq_zero_iff,hr.len]
    rw[hk,hn,hr.len];refine or_congr Iff.rfl ?_;constructor
    .rintro⟨b,c,arr,T,h1,h2,h3,h4,h5⟩;exact⟨b,c,arr,T,h1,h2,h3,h4,(hr.sats H _).1 h5⟩
    .rintro⟨b,c,arr,T,h1,h2,h3,h4,h5⟩;exact⟨b,c,arr,T,h1,h2,h3,h4,(hr.sats H _).2 h5⟩
  .cases h
theorem Tm{R:Rn}{a:BE}{b:KB}(h:cqB R a b=true):(b.ok->(beB a).ok)/\(∀x,b=beB x->(beB a).ok->b.ok):=by
 have hG:Go2 R (λ_=>none) (λ_=>none):=λ_ _ _=>rfl
 refine⟨λh2=>?_,λx hx h2=>?_⟩
 .unfold cqB at h
  split at h
  .split at h
   .rename_i v _ u hl
    simp only[q4L]at h;have e:beB a= .bx u:=by unfold beB;rw[q5w h.1,hl];rfl
    rw[e];exact(Iv (D:=[]) hG h.2).ok.2 h2
   .cases h
  .rename_i es n q
   simp only[q4L]at h;have e:beB a= .arr a.es a.l.length (Sq.pushL .e 0 a.l):=by unfold beB;rw[q5w h.1];rfl
   rw[e];refine⟨Dz _,?_⟩;rw[AG,q5w h.2.1];exact((BO (D:=[]) hG h.2.2).2.2.2.1 es).2 h2.2
  .rename_i es n q
   simp only[q4L]at h;have e:beB a= .gro a.es a.l.length (Sq.pushL .e 0 a.l):=by unfold beB;rw[q5w h.1];rfl
   rw[e];refine⟨Dz _,?_⟩;rw[AG,q5w h.2.1];exact((BO (D:=[]) hG h.2.2).2.2.2.1 es).2 h2.2
  .cases h
 .unfold cqB at h
  split at h
  .split at h
   .rename_i v _ u hl
    simp only[q4L]at h;have e:beB a= .bx u:=by unfold beB;rw[q5w h.1,hl];rfl
    rw[e]at h2;exact(Iv (D:=[]) hG h.2).ok.1 h2
   .cases h
  .rename_i es n q
   simp only[q4L]at h;have e:beB a= .arr a.es a.l.length (Sq.pushL .e 0 a.l):=by unfold beB;rw[q5w h.1];rfl
   rw[e]at h2;have h2:okE a.es (Sq.toL V.und (Sq.pushL .e 0 a.l) 0 a.l.length):=h2.2;rw[AG,q5w h.2.1]at h2;exact⟨YD hx,((BO (D:=[]) hG h.2.2).2.2.2.1 es).1 h2⟩
  .rename_i es n q
   simp only[q4L]at h;have e:beB a= .gro a.es a.l.length (Sq.pushL .e 0 a.l):=by unfold beB;rw[q5w h.1];rfl
   rw[e]at h2;have h2:okE a.es (Sq.toL V.und (Sq.pushL .e 0 a.l) 0 a.l.length):=h2.2;rw[AG,q5w h.2.1]at h2;exact⟨YE hx,((BO (D:=[]) hG h.2.2).2.2.2.1 es).1 h2⟩
  .cases h
theorem Ct{R' R:Rn}{m:qM}: ∀{bs:List (Key×BE)},hsB R' R m bs=true-> ∀p∈bs,∃k b,rlk R p.1=some k/\mget m k=some b/\cqB R' p.2 b=true
 |[],_,p,hp=>by cases hp
 |q::bs,h,p,hp=>by
  have h:(match(generalizing:=false) rlk R q.1 with
   |some k=>(match(generalizing:=false) mget m k with|some b=> @Bool.rec (λ_=>Bool) false (hsB R' R m bs) (cqB R' q.2 b)|none=>false)
   |none=>false)=true:=h
  split at h
  .rename_i k hk
   split at h
   .rename_i b hb
    cases hc:cqB R' q.2 b with
    |false=>rw[hc]at h;cases h
    |true=>
     rw[hc]at h;rcases q5d.1 hp with rfl|hp
     .exact⟨k,b,hk,hb,hc⟩
     .exact Ct h p hp
   .cases h
  .cases h
theorem X9{R:Rn}{bs:List (Key×BE)}{a b:Key}(h:rlk (vj R bs) a=some b): ∃p∈bs,p.1=a:=by
 have:=DY h;unfold vj at this;obtain⟨p,hp,e⟩:=List.mem_map.1 this;cases e;exact⟨p,hp,rfl⟩
theorem idR{bs:List (Key×BE)}{a b:Key}(h:rlk (bs.map λp=>(p.1,p.1)) a=some b):a=b/\ ∃p∈bs,p.1=a:=by
 obtain⟨p,hp,e⟩:=List.mem_map.1 (DY h);cases e;exact⟨rfl,p,hp,rfl⟩
theorem JU{bs:List (Key×BE)}{p:Key×BE}(hp:p∈bs):rlk (bs.map λp=>(p.1,p.1)) p.1=some p.1:=by
 induction bs with
 |nil=>cases hp
 |cons q bs ih=>
  rw[q5b,CI];by_cases e:q.1=p.1
  .rw[if_pos e,e]
  .rw[if_neg e]
   rcases q5d.1 hp with rfl|hp
   .exact absurd rfl e
   .exact ih hp
theorem UO{a b:Nat}{R:Rn}(h:rngB a b R=true): ∀p∈R,a<=p.2.num/\p.2.num<b:=by
 induction R with
 |nil=>intro p hp;cases hp
 |cons q R ih=>
  have h: @Bool.rec (λ_=>Bool) false (rngB a b R) (Nat.ble a q.2.num&&Nat.blt q.2.num b)=true:=h
  cases hc:(Nat.ble a q.2.num&&Nat.blt q.2.num b)with
  |false=>rw[hc]at h;cases h
  |true=>
   rw[hc]at h;simp only[q4L]at hc;intro p hp;rcases q5d.1 hp with rfl|hp
   .exact⟨q5y hc.1,q5y hc.2⟩
   .exact ih h p hp
theorem O3{R:Rn}{m:qM}{q:Key}: ∀{ns:List (Key×BE)},(∀p∈ns,rnK R p.1≠q)->mget (putB R ns m) q=mget m q
 |[],_=>rfl
 |p::ns,h=>by
  show mget (mset (putB R ns m) (rnK R p.1) (some (rnB R p.2))) q=_;rw[vu,if_neg (h p q5f)];exact O3 λp hp=>h p (q5e _ hp)
theorem ze{R:Rn}{m:qM}{q:Key}{b:KB}: ∀{ns:List (Key×BE)},mget (putB R ns m) q=some b->(∃p∈ns,rnK R p.1=q/\b=rnB R p.2)\/mget m q=some b
 |[],h=> .inr h
 |p::ns,h=>by
  have h:mget (mset (putB R ns m) (rnK R p.1) (some (rnB R p.2))) q=some b:=h;rw[vu]at h;split at h
  .rename_i e;cases h;exact .inl ⟨p,q5f,e,rfl⟩
  .rcases ze h with⟨p',h1,h2⟩|h1
   .exact .inl ⟨p',q5e _ h1,h2⟩
   .exact .inr h1
theorem EK{q:Key}{b:KB}: ∀{bs:List (Key×BE)},mget (memE bs) q=some b-> ∃p∈bs,p.1=q/\b=beB p.2
 |[],h=>by
  have h:mget mnew q=some b:=h;rw[wL]at h;cases h
 |p::bs,h=>by
  have h:mget (mset (memE bs) p.1 (some (beB p.2))) q=some b:=h;rw[vu]at h;split at h
  .rename_i e;cases h;exact⟨p,q5f,e,rfl⟩
  .obtain⟨p',h1,h2⟩:=EK h
   exact⟨p',q5e _ h1,h2⟩
open Classical in
def pulR(R:Rn)(β:Bm):Bm:=λn=>if h: ∃p:Key×Key,p.1.num=n/\rlk R p.1=some p.2 then β (Classical.choose h).2.num else none
theorem wZ(R:Rn)(β:Bm):Go2 R (pulR R β) β:=λa b h=>by
 have hx: ∃p:Key×Key,p.1.num=a.num/\rlk R p.1=some p.2:=⟨(a,b),rfl,h⟩;unfold pulR;rw[dif_pos hx];have h1:=Classical.choose_spec hx;have e:=Key.num_inj h1.1;have h2:=h1.2;rw[e,h]at h2;injection h2 with h2
 rw[<-h2]
theorem Lm{R:Rn}{β:Bm}{n:Nat}(h: ∀a b,rlk R a=some b->a.num≠n):pulR R β n=none:=by
 unfold pulR;rw[dif_neg]
 rintro⟨p,h1,h2⟩
 exact h p.1 p.2 h2 h1
open Classical in
def pusR(R:Rn)(βe β:Bm):Bm:=λn=>if h: ∃p:Key×Key,p.2.num=n/\rlk R p.1=some p.2 then βe (Classical.choose h).1.num else β n
theorem Qm{R:Rn}(hd:dsnB R=true)(βe β:Bm):Go2 R βe (pusR R βe β):=λa b h=>by
 have hx: ∃p:Key×Key,p.2.num=b.num/\rlk R p.1=some p.2:=⟨(a,b),rfl,h⟩;unfold pusR;rw[dif_pos hx];have h1:=Classical.choose_spec hx;have e:=Key.num_inj h1.1;have h2:=h1.2;rw[e]at h2;rw[Em hd h2 h]
theorem O2{R:Rn}{βe β:Bm}{n:Nat}(h: ∀a b,rlk R a=some b->b.num≠n):pusR R βe β n=β n:=by
 unfold pusR;rw[dif_neg]
 rintro⟨p,h1,h2⟩
 exact h p.1 p.2 h2 h1
theorem recB{α:Type}{x:α}{b:Bool}{y:Option α}(h: @Bool.rec (λ_=>Option α) none y b=some x):b=true/\y=some x:=by
 cases b with
 |false=>cases h
 |true=>exact⟨rfl,h⟩
theorem VF{e:DE}{vs:List V}{m:qM}{nx:Key}{dn:Nat}{sc:List (Nat×Nat)}{v:V}{s':S}(h:useD e vs ⟨m,nx,dn,sc⟩=some (v,s')):
  ∃R1 Rk nx',s'=⟨putB (vj R1 e.bs++Rk) e.ns m,nx',dn,sc⟩/\cqT (vj R1 e.bs++Rk) e.xs vs=true/\hsB (vj R1 e.bs++Rk) (vj R1 e.bs) m e.bs=true/\dsnB (vj R1 e.bs)=true/\
   hsB (vj R1 e.bs++Rk) Rk (putB (vj R1 e.bs++Rk) e.ns m) e.ns=true/\dsnB Rk=true/\rngB nx.num nx'.num Rk=true/\nx.num<=nx'.num/\cqV (vj R1 e.bs++Rk) e.v v=true:=by
 have h: @Bool.rec (λ_=>Option (V×S)) none (match(generalizing:=false) bndR m e.bs (wkT e.xs vs [])with
  |some R1=>(match(generalizing:=false) nwK e.ns nx with
   |some (Rk,nx')=> @Bool.rec (λ_=>Option (V×S)) none (some (rnV (vj R1 e.bs++Rk) e.v,S.mk (putB (vj R1 e.bs++Rk) e.ns m) nx' dn sc))
     (cqT (vj R1 e.bs++Rk) e.xs vs&&(hsB (vj R1 e.bs++Rk) (vj R1 e.bs) m e.bs&&(dsnB (vj R1 e.bs)&&(hsB (vj R1 e.bs++Rk) Rk (putB (vj R1 e.bs++Rk) e.ns m) e.ns&&(dsnB Rk&&(rngB nx.num nx'.num Rk&&(Nat.ble nx.num nx'.num&&cqV (vj R1 e.bs++Rk) e.v (rnV (vj R1 e.bs++Rk) e.v))))))))
   |none=>none)
  |none=>none) (cqT (wkT e.xs vs []) e.xs vs)=some (v,s'):=h
 obtain⟨_,h⟩:=recB h;split at h
 .rename_i R1 _
  split at h
  .rename_i Rk nx' _
   obtain⟨h1,h2⟩:=recB h;injection h2 with h2
   injection h2 with h2 h3
   simp only[q4L]at h1;obtain⟨c1,c2,c3,c4,c5,c6,c7,c8⟩:=h1;subst h2;subst h3
   exact⟨R1,Rk,nx',rfl,c1,c2,c3,c4,c5,c6,q5y c7,c8⟩
  .cases h
 .cases h
theorem Tx{e:DE}{v1:V}{s1:S}(h:fitD e v1 s1=true): ∃T1,(λT=>cqV T e.v v1=true/\hsB T (e.bs.map λp=>(p.1,p.1)) s1.m e.bs=true/\hsB T (vj T1 e.ns) s1.m e.ns=true/\dsnB T=true) ((e.bs.map λp=>(p.1,p.1))++vj T1 e.ns):=by
 obtain⟨m1,nx1,dn1,sc1⟩:=s1
 have h:(match(generalizing:=false) bndR m1 e.ns (wkV e.v v1 (e.bs.map λp=>(p.1,p.1)))with
  |some T1=>cqV ((e.bs.map λp=>(p.1,p.1))++vj T1 e.ns) e.v v1&&(hsB ((e.bs.map λp=>(p.1,p.1))++vj T1 e.ns) (e.bs.map λp=>(p.1,p.1)) m1 e.bs&&(hsB ((e.bs.map λp=>(p.1,p.1))++vj T1 e.ns) (vj T1 e.ns) m1 e.ns&&dsnB ((e.bs.map λp=>(p.1,p.1))++vj T1 e.ns)))
  |none=>false)=true:=h
 split at h
 .rename_i T1 _
  simp only[q4L]at h;exact⟨T1,h.1,h.2.1,h.2.2.1,h.2.2.2⟩
 .cases h
set_option maxHeartbeats 4000000 in
theorem YW{f:FuncId}{e:DE}{vs:List V}{s:S}{v:V}{s':S}{v1:V}{s1:S}(hrun:CallOk D P f e.xs (stD e) v1 s1)(hfit:fitD e v1 s1=true)(hns: ∀p∈e.ns,∀q∈e.bs,q.1≠p.1)
  (hlt: ∀p∈e.bs,p.1.num<(nx0 e.bs).num)(huse:useD e vs s=some (v,s'))(hs:SOK D s):CallOk D P f vs s v s':=by
 obtain⟨m,nx,dn,sc⟩:=s;obtain⟨R1,Rk,nx',rfl,c1,c2,c3,c4,c5,c6,c7,c8⟩:=VF huse;obtain⟨T1,f1,f2,f3,f4⟩:=Tx hfit;generalize hRb:vj R1 e.bs=Rb at c1 c2 c3 c4 c8;have hRbd: ∀a b,rlk Rb a=some b-> ∃p∈e.bs,p.1=a:=λa b h=>X9 (R:=R1) (by rw[hRb];exact h)
 generalize hN:vj T1 e.ns=N at f1 f2 f3 f4;have c2:=Ct c2;have c4:=Ct c4;have c6:=UO c6;have f2:=Ct f2;have f3:=Ct f3;have hTb: ∀p∈e.bs,rlk ((e.bs.map λp=>(p.1,p.1))++N) p.1=some p.1:=λp hp=>by rw[DX,JU hp]
 have hT0n: ∀p∈e.ns,rlk (e.bs.map λp=>(p.1,p.1)) p.1=none:=λp hp=>by
  cases h:rlk (e.bs.map λp=>(p.1,p.1)) p.1 with
  |none=>rfl
  |some b=>
   obtain⟨_,q,hq,e1⟩:=idR h;exact absurd e1 (hns p hp q hq)
 have hRbn: ∀p∈e.ns,rlk Rb p.1=none:=λp hp=>by
  cases h:rlk Rb p.1 with
  |none=>rfl
  |some b=>
   obtain⟨q,hq,e1⟩:=hRbd _ _ h;exact absurd e1 (hns p hp q hq)
 --the new keys
 have hnew: ∀a b,rlk Rk a=some b->nx.num<=b.num/\b.num<nx'.num:=λa b h=>c6 (a,b) (DY h)
 have hren: ∀p∈e.ns,rlk Rk p.1=some (rnK (Rb++Rk) p.1):=λp hp=>by
  obtain⟨k,b,h1,_,_⟩:=c4 p hp;have e1:rlk (Rb++Rk) p.1=some k:=by rw[DX,hRbn p hp];exact h1
  rw[h1,show rnK (Rb++Rk) p.1=(rlk (Rb++Rk) p.1).getD p.1 from rfl,e1];rfl
 have hold: ∀q,mget m q≠none-> ∀p∈e.ns,rnK (Rb++Rk) p.1≠q:=λq hq p hp e1=>by
  have h1:=(hnew _ _ (hren p hp)).1;have h2:q.num<nx.num:=hs.lt q hq;rw[e1]at h1;omega
 have hget: ∀q,mget m q≠none->mget (putB (Rb++Rk) e.ns m) q=mget m q:=λq hq=>O3 (hold q hq)
 --the blocks that are read
 have hRbm: ∀a b,rlk Rb a=some b-> ∃p∈e.bs,p.1=a/\ ∃x,mget m b=some x/\cqB (Rb++Rk) p.2 x=true:=λa b h=>by
  obtain⟨p,hp,e1⟩:=hRbd a b h;obtain⟨k,x,h1,h2,h3⟩:=c2 p hp;rw[e1,h]at h1;injection h1 with h1
  subst h1;exact⟨p,hp,e1,x,h2,h3⟩
 have hsm: ∀β:Bm,(∀k,nx.num<=k->k<nx'.num->β k=none)->Go2 (Rb++Rk) (pulR Rb β) β:=λβ hdom a b h=>by
  rw[DX]at h
  cases h1:rlk Rb a with
  |some b'=>
   rw[h1]at h;have h:some b'=some b:=h;injection h with h
   subst h;exact wZ Rb β a b' h1
  |none=>
   rw[h1]at h;have h:rlk Rk a=some b:=h;rw[hdom b.num (hnew a b h).1 (hnew a b h).2]
   exact Lm λa' b' h2 e1=>by
    have:=Key.num_inj e1;subst this;rw[h1]at h2;cases h2
 have hv:=Gp (D:=D) (R:=(e.bs.map λp=>(p.1,p.1))++N) (β1:=λ_=>none) (β2:=λ_=>none) (λ_ _ _=>rfl) f1;have hv2:=Gp (D:=D) (R:=Rb++Rk) (β1:=λ_=>none) (β2:=λ_=>none) (λ_ _ _=>rfl) c8;refine⟨hrun.callable,⟨λq b hq=>?_,λq hq=>?_,hs.agr⟩,c7,hv2.2.1.1 (hv.2.1.2 hrun.ok),hv2.2.2.2,λq hq=>?_,λus w H β hargs hM hon hdom=>?_⟩
 .rcases ze hq with⟨p,hp,e1,e2⟩|h1
  .obtain⟨k,b',h1,h2,h3⟩:=c4 p hp
   have e3:k=q:=by
    have:=hren p hp;rw[h1]at this;injection this with this
    rw[this,e1]
   subst e3;rw[hq]at h2;injection h2 with h2
   subst h2;obtain⟨k1,b1,g1,g2,g3⟩:=f3 p hp;have h4:=(Tm g3).1 (hrun.sok.ok k1 b1 g2);exact(Tm h3).2 _ e2 h4
  .exact hs.ok q b h1
 .cases hb:mget (putB (Rb++Rk) e.ns m) q with
  |none=>exact absurd hb hq
  |some b=>
   rcases ze hb with⟨p,hp,e1,_⟩|h1
   .have:=(hnew _ _ (hren p hp)).2
    rw[e1]at this;exact this
   .exact q5E (hs.lt q (by show mget m q≠none;rw[h1];simp)) c7
 .cases hb:mget (putB (Rb++Rk) e.ns m) q with
  |none=>exact absurd hb hq
  |some b=>
   rcases ze hb with⟨p,hp,e1,_⟩|h1
   .have:=(hnew _ _ (hren p hp)).1
    rw[e1]at this;exact .inr this
   .exact .inl (by show mget m q≠none;rw[h1];simp)
 have hdom: ∀k,nx.num<=k->k<nx'.num->β k=none:=hdom;have hG:=hsm β hdom
 have hsmall: ∀q b,mget (memE e.bs) q=some b-> ∃p∈e.bs,p.1=q/\b=beB p.2/\ ∃k x,rlk Rb q=some k/\mget m k=some x/\cqB (Rb++Rk) p.2 x=true:=λq b hq=>by
  obtain⟨p,hp,e1,e2⟩:=EK hq;obtain⟨k,x,h1,h2,h3⟩:=c2 p hp;exact⟨p,hp,e1,e2,k,x,by rw[<-e1];exact h1,h2,h3⟩
 refine Calls.mono (hrun.calls us w H (pulR Rb β) (((BO (D:=D) hG c1).2.2.1 H us).2 hargs) ⟨λq b hq=>?_,λq b hq bb c h0=>?_,λq q' b b' hq hq' hne bb c c' h0 h1=>?_⟩ hon λn h2 h3=>?_) ?_
 .obtain⟨p,hp,e1,rfl,k,x,h1,h2,h3⟩:=hsmall q b hq
  exact(DG (D:=D) hG h3 (wZ Rb β q k h1) w H).2 (hM.rep k x h2)
 .obtain⟨p,hp,e1,_,k,x,h1,h2,h3⟩:=hsmall q b hq
  rw[wZ Rb β q k h1]at h0;exact hM.own k x h2 bb c h0
 .obtain⟨p,hp,e1,_,k,x,g1,g2,g3⟩:=hsmall q b hq
  obtain⟨p',hp',e1',_,k',x',g1',g2',g3'⟩:=hsmall q' b' hq';rw[wZ Rb β q k g1]at h0;rw[wZ Rb β q' k' g1']at h1;exact hM.inj k k' x x' g2 g2' (λe2=>hne (by subst e2;exact Em c3 g1 g1')) bb c c' h0 h1
 .refine Lm λa b h4 e1=>?_
  obtain⟨p,hp,e2⟩:=hRbd a b h4;have h5:=hlt p hp;have h2:(nx0 e.bs).num<=n:=h2;rw[e2]at h5;omega
 rintro e' w' ⟨u,H',β',rfl,hst,hsat,hM'⟩
 --the places of the entry's blocks
 have hβ': ∀p∈e.bs,∀k,rlk Rb p.1=some k->β' p.1.num=β k.num:=λp hp k hk=>by
  rw[hst.beta p.1.num (.inl (hlt p hp))];exact wZ Rb β _ _ hk
 have hT:=wZ ((e.bs.map λp=>(p.1,p.1))++N) β'
 have hGe:Go2 (Rb++Rk) (pulR ((e.bs.map λp=>(p.1,p.1))++N) β') (pusR Rk (pulR ((e.bs.map λp=>(p.1,p.1))++N) β') β):=λa b h=>by
  rw[DX]at h
  cases h1:rlk Rb a with
  |some b'=>
   rw[h1]at h;have h:some b'=some b:=h;injection h with h
   subst h;obtain⟨p,hp,e1,x,h2,_⟩:=hRbm a b' h1;subst e1;rw[hT _ _ (hTb p hp),hβ' p hp b' h1]
   exact(O2 λa2 b2 h3 e2=>by
    have h4:=(hnew a2 b2 h3).1;have h5:b'.num<nx.num:=hs.lt b' (by show mget m b'≠none;rw[h2];simp)
    omega).symm
  |none=>
   rw[h1]at h;exact Qm c5 _ _ a b h
 generalize hβe:pulR ((e.bs.map λp=>(p.1,p.1))++N) β'=βe at hT hGe
 have hkeep: ∀b',b'<w.heap.size->(∀k x,mget m k=some x-> ∀c,β k.num=some (b',c)-> ∀a,rlk Rb a≠some k)->w'.heap[b']?=w.heap[b']?:=λb' hb h0=>hst.keep b' hb λq hq c h1=>by
  cases hq2:mget (memE e.bs) q with
  |none=>exact hq hq2
  |some b2=>
   obtain⟨p,hp,e1,_,k,x,g1,g2,g3⟩:=hsmall q b2 hq2;rw[wZ Rb β q k g1]at h1;exact h0 k x g2 c h1 q g1
 have hsz:=hst.size
 --the new blocks
 have hnb: ∀p∈e.ns,∃K bM,rlk ((e.bs.map λp=>(p.1,p.1))++N) p.1=some K/\mget s1.m K=some bM/\cqB ((e.bs.map λp=>(p.1,p.1))++N) p.2 bM=true/\βe p.1.num=β' K.num/\ ∀bb c,β' K.num=some (bb,c)->H' bb=none/\bb<w'.heap.size/\w.heap.size<=bb:=λp hp=>by
  obtain⟨K,bM,g1,g2,g3⟩:=f3 p hp;have g4:rlk ((e.bs.map λp=>(p.1,p.1))++N) p.1=some K:=by rw[DX,hT0n p hp];exact g1
  refine⟨K,bM,g4,g2,g3,hT _ _ g4,λbb c h0=>?_⟩;obtain⟨h2,h3⟩:=hM'.own K bM g2 bb c h0;refine⟨h2,h3,?_⟩;rcases hst.own K bM g2 bb c h0 with h4|⟨q,hq,c0,h4⟩
  .exact h4
  .cases hq2:mget (memE e.bs) q with
   |none=>exact absurd hq2 hq
   |some b2=>
    obtain⟨p2,hp2,e1,_,k,x,l1,l2,l3⟩:=hsmall q b2 hq2;subst e1;obtain⟨k2,b3,g5,g6,g7⟩:=f2 p2 hp2
    have e3:p2.1=k2:=by
     have:=JU hp2;rw[g5]at this;injection this with this
     exact this.symm
    subst e3;rw[wZ Rb β _ k l1,<-hβ' p2 hp2 k l1]at h4
    have hne:K≠p2.1:=λe4=>by
     subst e4;exact hns p hp p2 hp2 (Em f4 (hTb p2 hp2) g4)
    exact absurd h4 (hM'.inj K p2.1 bM b3 g2 g6 hne bb c c0 h0)
 have hpu: ∀p∈e.ns,pusR Rk βe β (rnK (Rb++Rk) p.1).num=βe p.1.num:=λp hp=>(Qm c5 βe β p.1 _ (hren p hp)).symm
 have hpo: ∀n,(n<nx.num\/nx'.num<=n)->pusR Rk βe β n=β n:=λn hn=>O2 λa b h e1=>by
  have:=hnew a b h;omega
 have hq0: ∀q,mget m q≠none->pusR Rk βe β q.num=β q.num:=λq hq=>hpo _ (.inl (hs.lt q hq))
 have hHold: ∀q b2,mget m q=some b2-> ∀bb c,β q.num=some (bb,c)->H' bb=none/\bb<w.heap.size:=λq b2 hq bb c h0=>by
  obtain⟨h2,h3⟩:=hM.own q b2 hq bb c h0;refine⟨?_,h3⟩
  cases hH:H' bb with
  |none=>rfl
  |some cs0=>
   rcases hst.hnew bb (by rw[hH];simp)with h4|h4
   .exact absurd h2 h4
   .omega
 refine⟨u,H',pusR Rk βe β,rfl,⟨hst.os,hst.tape,hst.output,hsz,λb' hb h0=>hkeep b' hb λk x hk c h1 a _=>h0 k (by rw[hk];simp) c h1,hst.hle,hst.hnew,hst.hon,hpo,λq b2 hq bb c h0=>?_⟩,?_,⟨λq b2 hq=>?_,λq b2 hq bb c h0=>?_,λq q' b2 b3 hq hq' hne bb c c' h0 h1=>?_⟩⟩
 .rcases ze hq with⟨p,hp,e1,_⟩|h1
  .obtain⟨K,bM,g1,g2,g3,g4,g5⟩:=hnb p hp
   rw[<-e1,hpu p hp,g4]at h0;exact .inl (g5 bb c h0).2.2
  .have h1':mget m q≠none:=by rw[h1];simp
   rw[hq0 q h1']at h0;exact .inr ⟨q,h1',c,h0⟩
 .exact((Gp (D:=D) hGe c8).1 H' u).1 (((Gp (D:=D) hT f1).1 H' u).2 hsat)
 .rcases ze hq with⟨p,hp,e1,_⟩|h1
  .obtain⟨K,bM,g1,g2,g3,g4,g5⟩:=hnb p hp
   obtain⟨k,b',l1,l2,l3⟩:=c4 p hp
   have e3:k=q:=by
    have:=hren p hp;rw[l1]at this;injection this with this
    rw[this,e1]
   subst e3;rw[hq]at l2;injection l2 with l2
   subst l2;have h6:=(DG (D:=D) hT g3 g4 w' H').2 (hM'.rep K bM g2);exact(DG (D:=D) hGe l3 (k1:=p.1.num) (k2:=k.num) (by rw[<-e1];exact(hpu p hp).symm) w' H').1 h6
  .have h1':mget m q≠none:=by rw[h1];simp
   by_cases hin: ∃a,rlk Rb a=some q
   .obtain⟨a,ha⟩:=hin
    obtain⟨p,hp,e1,x,l1,l2⟩:=hRbm a q ha;subst e1;rw[h1]at l1;injection l1 with l1
    subst l1;obtain⟨k2,b3,g5,g6,g7⟩:=f2 p hp
    have e3:p.1=k2:=by
     have:=JU hp;rw[g5]at this;injection this with this
     exact this.symm
    subst e3;have hTp:βe p.1.num=β' p.1.num:=hT _ _ (hTb p hp);have h6:=(DG (D:=D) hT g7 hTp w' H').2 (hM'.rep _ b3 g6);exact(DG (D:=D) hGe l2 (k1:=p.1.num) (k2:=q.num) (by rw[hq0 q h1',hTp];exact hβ' p hp q ha) w' H').1 h6
   .have hr:=hM.rep q b2 h1
    refine Blk.rep_congr hr hst.hle (λn hn=>hpo n ?_) λbb c h0=>hkeep bb (hM.own q b2 h1 bb c h0).2 λk x hk c1 h3 a ha=>?_
    .by_cases hr2:n<nx.num\/nx'.num<=n
     .exact hr2
     .exfalso
      rcases hn with hn|hn
      .have:=hs.lt q h1'
       subst hn;exact hr2 (.inl this)
      .exact(Gh (D:=D) b2 0).2.1 β w H q.num n hr hn (hdom n (by omega) (by omega))
    .have hkq:k≠q:=λe4=>hin ⟨a,by rw[<-e4];exact ha⟩
     exact absurd h3 (hM.inj q k b2 x h1 hk (Ne.symm hkq) bb c c1 h0)
 .rcases ze hq with⟨p,hp,e1,_⟩|h1
  .obtain⟨K,bM,g1,g2,g3,g4,g5⟩:=hnb p hp
   rw[<-e1,hpu p hp,g4]at h0;exact⟨(g5 bb c h0).1,(g5 bb c h0).2.1⟩
  .rw[hq0 q (by rw[h1];simp)]at h0
   obtain⟨h2,h3⟩:=hHold q b2 h1 bb c h0;exact⟨h2,q5E h3 hsz⟩
 .rcases ze hq with⟨p,hp,e1,_⟩|g1
  .obtain⟨K,bM,k1,k2,k3,k4,k5⟩:=hnb p hp
   rw[<-e1,hpu p hp,k4]at h0;rcases ze hq' with⟨p',hp',e1',_⟩|g1'
   .obtain⟨K',bM',k1',k2',k3',k4',k5'⟩:=hnb p' hp'
    rw[<-e1',hpu p' hp',k4']at h1;refine hM'.inj K K' bM bM' k2 k2' (λe5=>?_) bb c c' h0 h1;subst e5;exact hne (by rw[<-e1,<-e1',Em f4 k1 k1'])
   .rw[hq0 q' (by rw[g1'];simp)]at h1
    have:=(hHold q' b3 g1' bb c' h1).2;have:=(k5 bb c h0).2.2;omega
  .rw[hq0 q (by rw[g1];simp)]at h0
   rcases ze hq' with⟨p',hp',e1',_⟩|g1'
   .obtain⟨K',bM',k1',k2',k3',k4',k5'⟩:=hnb p' hp'
    rw[<-e1',hpu p' hp',k4']at h1;have:=(hHold q b2 g1 bb c h0).2;have:=(k5' bb c' h1).2.2;omega
   .rw[hq0 q' (by rw[g1'];simp)]at h1
    exact hM.inj q q' b2 b3 g1 g1' hne bb c c' h0 h1
theorem q1U(v:V)(h:v.un=true):okCB v=ok1B v:=by cases v<;>first|rfl|cases h
theorem J0{v:V}(h:okCB v=true):v.okC/\v.ok/\v≠ .und:=by
 have h1: ∀x:V,ok1B x=true->x.un=true/\x.ok1:=λx hx=>by
  cases x with
  |qq s n d=>exact YC (v:= .qq s n d) hx
  |uu v=>
   refine⟨rfl,?_⟩;have hx:uuO v=true:=hx;unfold uuO at hx;split at hx<;>first|rfl|cases hx
  |st l=>
   refine⟨rfl,λb hb=>?_⟩;have:=List.all_eq_true.1 (show l.all (λb=>Nat.blt b 256)=true from hx) b hb;exact q5y this
  |_=>first|(cases hx;done)|exact⟨rfl,trivial⟩
 cases v with
 |ag w l=>
  have h:(Nat.beq w (wds l)&&l.all ok1B)=true:=h;rw[q4L]at h;have:(V.ag w l).okC:=⟨q5w h.1,λx hx=>h1 x (List.all_eq_true.1 h.2 x hx)⟩;exact⟨this,this,by simp⟩
 |und=>cases h
 |tu l=>cases h
 |_=>
  rw[q1U _ rfl]at h;exact⟨(h1 _ h).2,(h1 _ h).2,by simp⟩
theorem q01{b:BE}(h:okBB b=true):(beB b).ok:=by
 obtain⟨k,es,l⟩:=b
 match k with
 |0=>
  have h:(match(generalizing:=false) l with|[v]=>okCB v|_=>false)=true:=h;split at h
  .exact(J0 h).1
  .cases h
 |1=>
  have h:(l.all λv=>okCB v&&Nat.beq v.size es)=true:=h;refine⟨Dz l,?_⟩;rw[AG];intro x hx;have:=List.all_eq_true.1 h x hx;rw[q4L]at this;exact⟨(J0 this.1).1,q5w this.2⟩
 |k+2=>
  have h:(l.all λv=>okCB v&&Nat.beq v.size es)=true:=h;refine⟨Dz l,?_⟩;rw[AG];intro x hx;have:=List.all_eq_true.1 h x hx;rw[q4L]at this;exact⟨(J0 this.1).1,q5w this.2⟩
theorem V1{e:DE}(h:sndB e=true):(∀x∈e.xs,x.ok/\x≠ .und)/\SOK D (stD e)/\(∀p∈e.bs,p.1.num<(nx0 e.bs).num)/\ ∀p∈e.ns,∀q∈e.bs,q.1≠p.1:=by
 unfold sndB at h;simp only[q4L]at h;obtain⟨h1,h2,h3⟩:=h
 have h2: ∀p∈e.bs,okBB p.2=true/\p.1.num<(nx0 e.bs).num:=λp hp=>by
  have:=List.all_eq_true.1 h2 p hp;rw[q4L]at this;exact⟨this.1,q5y this.2⟩
 refine⟨λx hx=>(J0 (List.all_eq_true.1 h1 x hx)).2,⟨λk b hb=>?_,λk hk=>?_,λj p h=>?_⟩,λp hp=>(h2 p hp).2,λp hp q hq e1=>?_⟩
 .obtain⟨p,hp,_,rfl⟩:=EK hb
  exact q01 (h2 p hp).1
 .cases hb:mget (memE e.bs) k with
  |none=>exact absurd hb hk
  |some b=>
   obtain⟨p,hp,rfl,_⟩:=EK hb;exact(h2 p hp).2
 .have h:([]:List (Nat×Nat))[j]?=some p:=h
  simp at h
 .have:=Lg (List.all_eq_true.1 h3 p hp) (q.1,q.1) (List.mem_map.2 ⟨q,hq,rfl⟩)
  exact this e1
theorem Cb{f:FuncId}{L:List DE}(hc: ∀e∈L,(∃v1 s1,CallOk D P f e.xs (stD e) v1 s1/\fitD e v1 s1=true)/\sndB e=true):j0 D P f (λvs s=>RR vs s L):=by
 intro vs s v s' hv hvs hsk
 induction L with
 |nil=>cases hv
 |cons e r ih=>
  have hv:(match(generalizing:=false) useD e vs s with|some (v,s')=>RO.ok v s'|none=>RR vs s r)=RO.ok v s':=hv;split at hv
  .rename_i v2 s2 hu
   injection hv with h1 h2
   subst h1;subst h2
   obtain⟨⟨v1,s1,h1,h2⟩,h3⟩:=hc e q5f;obtain⟨_,_,h4,h5⟩:=V1 (D:=D) h3;exact YW h1 h2 h5 h4 hu hsk
  .exact ih (λe he=>hc e (q5e _ he)) hv
end
end
noncomputable section
def stE:S:=⟨mnew,⟨.d0,.d0,.d0,.d0⟩,0,[]⟩
def okB(r:RO):Bool:= @RO.rec (λ_=>Bool) (λv _=>match v with| .bb b=>b|_=>false) (λ_=>false) (λ_=>false) r
theorem q1T{r:RO}(h:okB r=true): ∃s',r= .ok (.bb true) s':=by
 cases r with
 |no t=>cases h
 |need n=>cases h
 |ok v s'=>
  cases v with
  |bb b=>
   have h:b=true:=h;subst h;exact⟨s',rfl⟩
  |_=>cases h
def locL:List Nat:=[0,0,0,0,0,18469181456256,0,0,0,0,536854528,1984,1984,0,0,0,0,0,0,0x3fbdef7bcffbffffffffbfe800,16256,2095072,0x6fffbffef800,0,0,0,248,0,0,0,0,0x1ffffffffffffffffffffbffffff7fffeffffffffffdf783fffffdfffffd8000ffffbeff7bdefc00000100,0xffffff007ffbffffff7ffec00,0,68719345600,615305209600,0x3fef83ffffe1bffbffe18000,0x1ffffdffc3f0ffffff7fffe1f87fc400000,67047360,24,68215103488,0,0,0,0,0,0,0,0,0,0,0,0,0,33537768,0,0,0,0,0,0,0x10000001feeff7feff77fef77f77f76000,1965792,0,0,1048032,1048384,2096768,56,120,0xffffc0003efdfff7fe00,0x1fffffc01ffdffffffefffbffffc000,8998402633234304,0,1048288,4258425990912,0x18fffffe1fdf1fe800,0x1fffffe1fffbfff84000,0x3ffffffff0e1800,0x7ffff860fefe3ffffffc0c1ffe1ffff600000,532668864,0x3fff7c3ef0bfff0000,0x7ffffff861c000,8184,0x1fffff87fffef87fffc30e1f0000,2078960,0xffdff870800,65472,0,0xffeff0fffff7ffffff87c3800000,0xffffffbf800,25975316736,1040183296,2134363136,0x1fffc3fff7f0c00,2089920,536715056,268311808,0,134152096,0,0,0,0,0,0,0,0,0,56,0,0,0,0xffffff007dffbdb80,0,0xfffffff780,0,0,0,0,0,4177648,16634476416,0xfffffdffeff700,8388064,3669632,32736,68719443808,536346336,0xfbe7fbff07c0,0,0xf830ffe0ff840,0xff87fdffffbe00,33421376,9004999216956416,0x37fbdc3f7ffe1000,65376,2095168,4278214880,0x3ff7f07e1ffffe1f8000,245568,68719460128,0x3ffffffffffffffdff800,0x3fffffeffffffef00,267939840,17178787840,56,500170368,0x1fdfffe3ffff8000,0x3fefff7fffffc00,0xe030060fe1c2ff80000300ffc1ffc3fff0fbff88df85e0c000000,24,268311808,4088,4190688,0x7fffbffff0e1fe0000,496,520128,0x40003f8003ffffffefc384000,0xffefe1c200,0xffff0c387fff787f861c3f1f00000,1016,549751818240,524032,0x3fff0ffffffffff3ffffc3fc3ffffffe1f00000,0xfffffe3fc3ffff000,0x3fc3fc3ffc30d8000,0x23e00e00f0c7800,2101280768,2097024,8160,224,0,0,0,6475006464,0x1ffffff0007fffff0000,4177648,0,0,0,0,0,0,0,0,0,0,67552,0x118c7a77fffff0ff818307fbdff800,0,0,0,0,0,0x1fffdffff807fb600,0xf830ffc1ffde0,34091269056,0x37fdfffeff7ff7fde00,30769112145536,0xfffff7fffffefec0,8387456,0x1fffff7fbfe0c1c00,0,0,0,29797368192,6475006464,0,1834496,2040,2096640,496,562949699780608,33422336,248,24,24,0,0,2096640,0,0,0,224,0,0x3fc3e0000fffff000,16352,0,196352,0,4064,432,457792,232,0xe000000000000ffffffe801ff1ffff800,0x17fffffe00fef8bffdf0e000,0,35184372056064,0,268311808,8184,496,32704,65520,16352,34090770432,0x7fbffff7bfffdc00,444288,272728293376,8589868800,137438951424,3808,3808,0,0x7fff7ffffffffe000,0x3ffff7ffdfefff0eefffffc38000,0x1c0cff7fffeffff00000,0x1fdd3ffc1fffffc30000,0x7787feffff7fffc2000,16775168,0,0,0,0,35183302532032,0,0,0,0,0,0,248,2092992,8064,0,0,0,0,0,0,0,0,0xffd81fee1ffb8780,274810666752,0,8587232,56,8160,261040,15040769536,8387456,19311425600,0x3ffffdffffff000ee37ffbfff7df780000,32256,268311808,268311808,0,0,0,0,0,0,0,0xfffffdffffffc000ef1bffeffff7efde00000,0,0,0xffffffffffff37fffffe00000,67370496,0x1033a1f7f999dfffffe0007ffe0000,0x7fbffff7bfffdc00,33521504,68215103488,0xfffffdffffffc000ef1bffeffff7efde00000,444288,9007164899179520,0,4294966272,2211912349696,262048,0,0,0,0,0,0,0,268434928,0,0,0,0,0,0,0,2097024,562947806981888,0,0,0,0,0,0,0,0,0,0,0,0,9007164899179520,0,0,0,0,0,0,0,6442442752,0x400000c30c3e00,0x200183ffbebeff7ef0000,9007164899179520,0,134152096,9007164899179520,0,0,0,0,0,0,0,56,0,4064,271842816,0,0,0,0,494792448,0,0,0,0,0,0,4296014848]
def locT(f:FuncId):Nat:=locL.getD f 0
theorem QK(D:List Int):SOK D stE:=by
 refine⟨λk b h=>?_,λk h=>?_,λj p h=>?_⟩
 .rw[show stE.m=mnew from rfl,wL]at h;cases h
 .rw[show stE.m=mnew from rfl,wL]at h;exact absurd rfl h
 .have h:([]:List (Nat×Nat))[j]?=some p:=h
  simp at h
def qi(n:Nat):V:= .qq false n 1
def qp(n d:Nat):V:= .qq false n d
def qm(n d:Nat):V:= .qq true n d
def pt(a b c:V):V:= .ag 9 [a,b,c]
def ni(n:Nat):V:= .nn .i64 n
def nS:V:= .uu (.slice none 0 0)
def pal:List V:=[.qq false 0 1,.qq false 1 1,.qq false 2 1,.qq true 1 1,.qq false 1 2,.qq false 3 2,.qq true 1 2,.qq false 5 2]
def nthK(l:List V):Nat->(V->DE)->DE:= @List.rec V (λ_=>Nat->(V->DE)->DE) (λ_ k=>k .und) (λp _ ih i k=> @Nat.rec (λ_=>DE) (k p) (λj _=>ih j k) i) l
abbrev FnD(n:Nat):Type:= @Nat.rec (λ_=>Type) DE (λ_ T=>V->T) n
def aD(n:Nat):FnD n->Nat->DE:= @Nat.rec (λn=>FnD n->Nat->DE) (λf _=>f) (λ_ ih f c=>nthK pal (Nat.mod c 64) λv=>ih (f v) (Nat.div c 64)) n
def okD(e:DE)(r:RO):Bool:= @RO.rec (λ_=>Bool) (λv s=>fitD e v s) (λ_=>false) (λ_=>false) r
def vY(tb:List (Nat×Pt))(f:FuncId)(L:List DE):Bool:= @List.rec DE (λ_=>Bool) true (λe _ ih=> @Bool.rec (λ_=>Bool) false ih (okD e ((CT Go.Proofs.Tryz.prog (prims tb) locT 60).call f (jz e.xs).c0 e.xs.length (stD e))&&sndB e)) L
def mmo0:List (List V×V):=[([.st [102],.st [102]],.st [102])]
def tb0:List (Nat×Pt):=(8,.memo mmo0)::tbA
end
noncomputable section
def q0:V:=qi 0
def q1:V:=qi 1
def qn:V:=qm 1 1
def qh:V:=qp 1 2
def fc(a b c d:V)(j:Nat):V:= .ag 14 [a,b,c,d,.gs (q9 j) 0 1 1,.st [102]]
def pl(a b c d:V):V:= .ag 12 [a,b,c,d]
def g1(i j:Nat):Key×BE:=(q9 i,⟨2,1,[.gs (q9 j) 0 4 1]⟩)
def g4(i a b c d:Nat):Key×BE:=(q9 i,⟨2,1,[ni a,ni b,ni c,ni d]⟩)
def h0(x0 x1:V):Key×BE:=(q9 0,⟨2,9,[pt x0 q0 q0,pt x0 q0 q1,pt x0 q1 q0,pt x0 q1 q1,pt x1 q0 q0,pt x1 q0 q1,pt x1 q1 q0,pt x1 q1 q1]⟩)
def h1(x0 x1:V):Key×BE:=(q9 0,⟨2,9,[pt x1 q0 q0,pt x1 q0 q1,pt x1 q1 q0,pt x1 q1 q1,pt x0 q0 q0,pt x0 q0 q1,pt x0 q1 q0,pt x0 q1 q1]⟩)
def h2(x1 x2:V):Key×BE:=(q9 0,⟨2,9,[pt x1 q0 q0,pt x1 q0 q1,pt x1 q1 q0,pt x1 q1 q1,pt x2 q0 q0,pt x2 q0 q1,pt x2 q1 q0,pt x2 q1 q1]⟩)
def h3(x0 x2:V):Key×BE:=(q9 1,⟨2,14,[fc qn q0 q0 x0 2,fc q0 q0 qn q0 4,fc q0 qn q0 q0 5,fc q0 q0 q1 q1 6,fc q0 q1 q0 q1 7,fc q1 q0 q0 x2 8]⟩)
def h4(x1 x2:V):Key×BE:=(q9 1,⟨2,14,[fc qn q0 q0 x2 4,fc q0 q0 qn q0 2,fc q0 qn q0 q0 5,fc q0 q0 q1 q1 6,fc q0 q1 q0 q1 7,fc q1 q0 q0 x1 8]⟩)
def h5(x1 x2:V):Key×BE:=(q9 1,⟨2,14,[fc qn q0 q0 x2 4,fc q0 q0 qn q0 5,fc q0 qn q0 q0 2,fc q0 q0 q1 q1 6,fc q0 q1 q0 q1 7,fc q1 q0 q0 x1 8]⟩)
def h6(x1 x2:V):Key×BE:=(q9 1,⟨2,14,[fc qn q0 q0 x2 4,fc q0 q0 qn q0 5,fc q0 qn q0 q0 6,fc q0 q0 q1 q1 2,fc q0 q1 q0 q1 7,fc q1 q0 q0 x1 8]⟩)
def h7(x1 x2:V):Key×BE:=(q9 1,⟨2,14,[fc qn q0 q0 x2 4,fc q0 q0 qn q0 5,fc q0 qn q0 q0 6,fc q0 q0 q1 q1 7,fc q0 q1 q0 q1 2,fc q1 q0 q0 x1 8]⟩)
def h8(x0 x2:V):Key×BE:=(q9 1,⟨2,14,[fc qn q0 q0 x2 4,fc q0 q0 qn q0 5,fc q0 qn q0 q0 6,fc q0 q0 q1 q1 7,fc q0 q1 q0 q1 8,fc q1 q0 q0 x0 2]⟩)
def h9(x0 x1:V):Key×BE:=(q9 128,⟨2,9,[pt x0 q0 q0,pt x0 q0 q1,pt x0 q1 q0,pt x0 q1 q1,pt x1 q0 q0,pt x1 q0 q1,pt x1 q1 q0,pt x1 q1 q1]⟩)
def h10:Key×BE:=(q9 3,⟨2,12,[pl q1 q0 q0 q0,pl q0 q0 q1 q0,pl q0 q1 q0 q0,pl q0 q0 q1 q1,pl q0 q1 q0 q1,pl q1 q0 q0 q1,pl q1 q0 q0 (qi 2)]⟩)
def h11(x0 x1:V):Key×BE:=(q9 3,⟨2,12,[pl q1 q0 q0 x0,pl q0 q0 q1 q0,pl q0 q1 q0 q0,pl q0 q0 q1 q1,pl q0 q1 q0 q1,pl q1 q0 q0 x1]⟩)
def Vf(x0 x1 x2:V):DE:=⟨[.ag 3 [.gs (q9 0) 0 8 9,.gs (q9 1) 0 6 14,nS]],[(q9 0,⟨2,9,[pt x0 q0 q0,pt x1 q0 q0,pt x1 q1 q0,pt x0 q1 q0,pt x0 q0 q1,pt x1 q0 q1,pt x1 q1 q1,pt x0 q1 q1]⟩),(q9 1,⟨2,14,[.ag 14 [q0,qn,q0,q0,.sl (q9 2) 0 1 1 1,.st [115,48,46,48]],.ag 14 [q1,q0,q0,x1,.sl (q9 3) 0 1 1 1,.st [115,48,46,49]],.ag 14 [q0,q1,q0,q1,.sl (q9 4) 0 1 1 1,.st [115,48,46,50]],.ag 14 [qn,q0,q0,x2,.sl (q9 5) 0 1 1 1,.st [115,48,46,51]],.ag 14 [q0,q0,qn,q0,.gs (q9 6) 0 1 1,.st [98,111,116,116,111,109]],.ag 14 [q0,q0,q1,q1,.gs (q9 7) 0 1 1,.st [116,111,112]]]⟩),(q9 2,⟨1,1,[.sl (q9 8) 0 4 4 1]⟩),(q9 3,⟨1,1,[.sl (q9 9) 0 4 4 1]⟩),(q9 4,⟨1,1,[.sl (q9 10) 0 4 4 1]⟩),(q9 5,⟨1,1,[.sl (q9 11) 0 4 4 1]⟩),g1 6 12,g1 7 13,(q9 8,⟨1,1,[ni 0,ni 1,ni 5,ni 4]⟩),(q9 9,⟨1,1,[ni 1,ni 2,ni 6,ni 5]⟩),(q9 10,⟨1,1,[ni 2,ni 3,ni 7,ni 6]⟩),(q9 11,⟨1,1,[ni 3,ni 0,ni 4,ni 7]⟩),g4 12 3 2 1 0,g4 13 4 5 6 7],.ag 3 [.gs (q9 128) 0 8 9,.gs (q9 129) 0 6 14,nS],[h9 x0 x1,(q9 129,⟨2,14,[.ag 14 [q0,q0,qn,q0,.gs (q9 130) 0 1 1,.st [98,111,116,116,111,109]],.ag 14 [q0,qn,q0,q0,.gs (q9 131) 0 1 1,.st [115,48,46,48]],.ag 14 [q1,q0,q0,x1,.gs (q9 132) 0 1 1,.st [115,48,46,49]],.ag 14 [q0,q1,q0,q1,.gs (q9 133) 0 1 1,.st [115,48,46,50]],.ag 14 [qn,q0,q0,x2,.gs (q9 134) 0 1 1,.st [115,48,46,51]],.ag 14 [q0,q0,q1,q1,.gs (q9 135) 0 1 1,.st [116,111,112]]]⟩),g1 130 136,g1 131 137,g1 132 138,g1 133 139,g1 134 140,g1 135 141,g4 136 0 2 6 4,g4 137 0 4 5 1,g4 138 4 6 7 5,g4 139 2 3 7 6,g4 140 0 1 3 2,g4 141 1 5 7 3]⟩
def Vg(x0 x1 x2:V):DE:=⟨[.ag 3 [.gs (q9 0) 0 8 9,.gs (q9 1) 0 6 14,nS]],[h0 x0 x1,(q9 1,⟨2,14,[.ag 14 [q0,q0,qn,q0,.gs (q9 2) 0 1 1,.st [122,48]],.ag 14 [q0,qn,q0,q0,.gs (q9 3) 0 1 1,.st [121,48]],.ag 14 [q1,q0,q0,x1,.gs (q9 4) 0 1 1,.st [120,49]],.ag 14 [q0,q1,q0,q1,.gs (q9 5) 0 1 1,.st [121,49]],.ag 14 [qn,q0,q0,x2,.gs (q9 6) 0 1 1,.st [120,48]],.ag 14 [q0,q0,q1,q1,.gs (q9 7) 0 1 1,.st [122,49]]]⟩),g1 2 8,g1 3 9,g1 4 10,g1 5 11,g1 6 12,g1 7 13,g4 8 0 2 6 4,g4 9 0 4 5 1,g4 10 4 6 7 5,g4 11 2 3 7 6,g4 12 0 1 3 2,g4 13 1 5 7 3],.ag 3 [.gs (q9 128) 0 8 9,.gs (q9 129) 0 6 14,nS],[h9 x0 x1,(q9 129,⟨2,14,[.ag 14 [qn,q0,q0,x2,.gs (q9 130) 0 1 1,.st [120,48]],.ag 14 [q1,q0,q0,x1,.gs (q9 131) 0 1 1,.st [120,49]],.ag 14 [q0,qn,q0,q0,.gs (q9 132) 0 1 1,.st [121,48]],.ag 14 [q0,q1,q0,q1,.gs (q9 133) 0 1 1,.st [121,49]],.ag 14 [q0,q0,qn,q0,.gs (q9 134) 0 1 1,.st [122,48]],.ag 14 [q0,q0,q1,q1,.gs (q9 135) 0 1 1,.st [122,49]]]⟩),g1 130 136,g1 131 137,g1 132 138,g1 133 139,g1 134 140,g1 135 141,g4 136 0 1 3 2,g4 137 4 6 7 5,g4 138 0 4 5 1,g4 139 2 3 7 6,g4 140 0 2 6 4,g4 141 1 5 7 3]⟩
def Vh(x0 x1 x2:V):DE:=⟨[.ag 3 [.gs (q9 0) 0 8 9,.gs (q9 1) 0 6 14,nS]],[h0 x0 x1,(q9 1,⟨2,14,[fc qn q0 q0 x2 2,fc q1 q0 q0 x1 3,fc q0 qn q0 q0 4,fc q0 q1 q0 q1 5,fc q0 q0 qn q0 6,fc q0 q0 q1 q1 7]⟩),g1 2 8,g1 3 9,g1 4 10,g1 5 11,g1 6 12,g1 7 13,g4 8 0 1 3 2,g4 9 4 6 7 5,g4 10 0 4 5 1,g4 11 2 3 7 6,g4 12 0 2 6 4,g4 13 1 5 7 3],.ag 3 [.gs (q9 128) 0 8 9,.gs (q9 129) 0 6 14,nS],[h9 x0 x1,(q9 129,⟨2,14,[fc qn q0 q0 x2 130,fc q0 q0 qn q0 131,fc q0 qn q0 q0 132,fc q0 q0 q1 q1 133,fc q0 q1 q0 q1 134,fc q1 q0 q0 x1 135]⟩),g1 130 136,g1 131 137,g1 132 138,g1 133 139,g1 134 140,g1 135 141,g4 136 0 1 3 2,g4 137 0 2 6 4,g4 138 0 4 5 1,g4 139 1 5 7 3,g4 140 2 3 7 6,g4 141 4 6 7 5]⟩
def Cl:List DE:=[aD 3 Vf 64,aD 3 Vg 64,aD 3 Vh 64,aD 3 Vf 12417,aD 3 Vg 12417,aD 3 Vh 12417]
def Vi(x0 x1 x2:V):DE:=⟨[.ag 3 [.gs (q9 0) 0 8 9,.gs (q9 1) 0 6 14,nS],fc qn q0 q0 x0 2,.gs (q9 3) 0 6 12],[h2 x1 x2,h3 x0 x2,g1 2 9,(q9 3,⟨2,12,[pl q1 q0 q0 x1,pl q0 q0 q1 q0,pl q0 q1 q0 q0,pl q0 q0 q1 q1,pl q0 q1 q0 q1,pl q1 q0 q0 x2]⟩),g1 4 10,g1 5 11,g1 6 12,g1 7 13,g1 8 14,g4 9 0 1 3 2,g4 10 0 2 6 4,g4 11 0 4 5 1,g4 12 1 5 7 3,g4 13 2 3 7 6,g4 14 4 6 7 5],.gs (q9 128) 0 1 14,[(q9 128,⟨2,14,[.ag 14 [.gs (q9 129) 0 4 9,qn,q0,q0,x0,.st [102]]]⟩),(q9 129,⟨2,9,[pt x1 q1 q0,pt x1 q0 q0,pt x1 q0 q1,pt x1 q1 q1]⟩)]⟩
def Vj(x0 x1 x2:V):DE:=⟨[.ag 3 [.gs (q9 0) 0 8 9,.gs (q9 1) 0 6 14,nS],fc q0 q0 qn q0 2,.gs (q9 3) 0 6 12],[h0 x0 x1,h4 x1 x2,g1 2 9,h11 x0 x1,g1 4 10,g1 5 11,g1 6 12,g1 7 13,g1 8 14,g4 9 0 2 6 4,g4 10 0 1 3 2,g4 11 0 4 5 1,g4 12 1 5 7 3,g4 13 2 3 7 6,g4 14 4 6 7 5],.gs (q9 128) 0 1 14,[(q9 128,⟨2,14,[.ag 14 [.gs (q9 129) 0 4 9,q0,q0,qn,q0,.st [102]]]⟩),(q9 129,⟨2,9,[pt x1 q0 q0,pt x0 q0 q0,pt x0 q1 q0,pt x1 q1 q0]⟩)]⟩
def Vk(x0 x1 x2:V):DE:=⟨[.ag 3 [.gs (q9 0) 0 8 9,.gs (q9 1) 0 6 14,nS],fc q0 qn q0 q0 2,.gs (q9 3) 0 6 12],[h0 x0 x1,h5 x1 x2,g1 2 9,h11 x0 x1,g1 4 10,g1 5 11,g1 6 12,g1 7 13,g1 8 14,g4 9 0 4 5 1,g4 10 0 1 3 2,g4 11 0 2 6 4,g4 12 1 5 7 3,g4 13 2 3 7 6,g4 14 4 6 7 5],.gs (q9 128) 0 1 14,[(q9 128,⟨2,14,[.ag 14 [.gs (q9 129) 0 4 9,q0,qn,q0,q0,.st [102]]]⟩),(q9 129,⟨2,9,[pt x1 q0 q1,pt x0 q0 q1,pt x0 q0 q0,pt x1 q0 q0]⟩)]⟩
def Vm(x0 x1 x2:V):DE:=⟨[.ag 3 [.gs (q9 0) 0 8 9,.gs (q9 1) 0 6 14,nS],fc q0 q0 q1 q1 2,.gs (q9 3) 0 6 12],[h0 x0 x1,h6 x1 x2,g1 2 9,h11 x0 x1,g1 4 10,g1 5 11,g1 6 12,g1 7 13,g1 8 14,g4 9 1 5 7 3,g4 10 0 1 3 2,g4 11 0 2 6 4,g4 12 0 4 5 1,g4 13 2 3 7 6,g4 14 4 6 7 5],.gs (q9 128) 0 1 14,[(q9 128,⟨2,14,[.ag 14 [.gs (q9 129) 0 4 9,q0,q0,q1,q1,.st [102]]]⟩),(q9 129,⟨2,9,[pt x1 q1 q1,pt x0 q1 q1,pt x0 q0 q1,pt x1 q0 q1]⟩)]⟩
def Vn(x0 x1 x2:V):DE:=⟨[.ag 3 [.gs (q9 0) 0 8 9,.gs (q9 1) 0 6 14,nS],fc q0 q1 q0 q1 2,.gs (q9 3) 0 6 12],[h0 x0 x1,h7 x1 x2,g1 2 9,h11 x0 x1,g1 4 10,g1 5 11,g1 6 12,g1 7 13,g1 8 14,g4 9 2 3 7 6,g4 10 0 1 3 2,g4 11 0 2 6 4,g4 12 0 4 5 1,g4 13 1 5 7 3,g4 14 4 6 7 5],.gs (q9 128) 0 1 14,[(q9 128,⟨2,14,[.ag 14 [.gs (q9 129) 0 4 9,q0,q1,q0,q1,.st [102]]]⟩),(q9 129,⟨2,9,[pt x1 q1 q0,pt x0 q1 q0,pt x0 q1 q1,pt x1 q1 q1]⟩)]⟩
def Vo(x0 x1 x2:V):DE:=⟨[.ag 3 [.gs (q9 0) 0 8 9,.gs (q9 1) 0 6 14,nS],fc q1 q0 q0 x0 2,.gs (q9 3) 0 6 12],[h1 x0 x1,h8 x0 x2,g1 2 9,(q9 3,⟨2,12,[pl q1 q0 q0 x1,pl q0 q0 q1 q0,pl q0 q1 q0 q0,pl q0 q0 q1 q1,pl q0 q1 q0 q1,pl q1 q0 q0 x0]⟩),g1 4 10,g1 5 11,g1 6 12,g1 7 13,g1 8 14,g4 9 4 6 7 5,g4 10 0 1 3 2,g4 11 0 2 6 4,g4 12 0 4 5 1,g4 13 1 5 7 3,g4 14 2 3 7 6],.gs (q9 128) 0 1 14,[(q9 128,⟨2,14,[.ag 14 [.gs (q9 129) 0 4 9,q1,q0,q0,x0,.st [102]]]⟩),(q9 129,⟨2,9,[pt x0 q1 q1,pt x0 q0 q1,pt x0 q0 q0,pt x0 q1 q0]⟩)]⟩
def Vp(x0 x1 x2:V):DE:=⟨[.ag 3 [.gs (q9 0) 0 8 9,.gs (q9 1) 0 6 14,nS],fc qn q0 q0 x0 2,.gs (q9 3) 0 7 12],[h2 x1 x2,h3 x0 x2,g1 2 9,h10,g1 4 10,g1 5 11,g1 6 12,g1 7 13,g1 8 14,g4 9 0 1 3 2,g4 10 0 2 6 4,g4 11 0 4 5 1,g4 12 1 5 7 3,g4 13 2 3 7 6,g4 14 4 6 7 5],.gs (q9 128) 0 1 14,[(q9 128,⟨2,14,[.ag 14 [.gs (q9 129) 0 4 9,qn,q0,q0,x0,.st [102]]]⟩),(q9 129,⟨2,9,[pt x1 q1 q0,pt x1 q0 q0,pt x1 q0 q1,pt x1 q1 q1]⟩)]⟩
def Vq(x0 x1 x2 x3 x4:V):DE:=⟨[.ag 3 [.gs (q9 0) 0 8 9,.gs (q9 1) 0 6 14,nS],fc q0 q0 qn q0 2,.gs (q9 3) 0 7 12],[h0 x0 x1,h4 x1 x2,g1 2 9,h10,g1 4 10,g1 5 11,g1 6 12,g1 7 13,g1 8 14,g4 9 0 2 6 4,g4 10 0 1 3 2,g4 11 0 4 5 1,g4 12 1 5 7 3,g4 13 2 3 7 6,g4 14 4 6 7 5],.gs (q9 128) 0 1 14,[(q9 128,⟨2,14,[.ag 14 [.gs (q9 129) 0 4 9,q0,q0,qn,q0,.st [102]]]⟩),(q9 129,⟨2,9,[pt q1 x0 q0,pt x3 x0 q0,pt x3 x4 q0,pt q1 x4 q0]⟩)]⟩
def Vr(x0 x1 x2:V):DE:=⟨[.ag 3 [.gs (q9 0) 0 8 9,.gs (q9 1) 0 6 14,nS],fc q0 qn q0 q0 2,.gs (q9 3) 0 7 12],[h0 x0 x1,h5 x1 x2,g1 2 9,h10,g1 4 10,g1 5 11,g1 6 12,g1 7 13,g1 8 14,g4 9 0 4 5 1,g4 10 0 1 3 2,g4 11 0 2 6 4,g4 12 1 5 7 3,g4 13 2 3 7 6,g4 14 4 6 7 5],.gs (q9 128) 0 1 14,[(q9 128,⟨2,14,[.ag 14 [.gs (q9 129) 0 4 9,q0,qn,q0,q0,.st [102]]]⟩),(q9 129,⟨2,9,[pt x1 q0 q1,pt x0 q0 q1,pt x0 q0 q0,pt x1 q0 q0]⟩)]⟩
def Vs(x0 x1 x2:V):DE:=⟨[.ag 3 [.gs (q9 0) 0 8 9,.gs (q9 1) 0 6 14,nS],fc q0 q0 q1 q1 2,.gs (q9 3) 0 7 12],[h0 x0 x1,h6 x1 x2,g1 2 9,h10,g1 4 10,g1 5 11,g1 6 12,g1 7 13,g1 8 14,g4 9 1 5 7 3,g4 10 0 1 3 2,g4 11 0 2 6 4,g4 12 0 4 5 1,g4 13 2 3 7 6,g4 14 4 6 7 5],.gs (q9 128) 0 1 14,[(q9 128,⟨2,14,[.ag 14 [.gs (q9 129) 0 4 9,q0,q0,q1,q1,.st [102]]]⟩),(q9 129,⟨2,9,[pt x1 q1 q1,pt x0 q1 q1,pt x0 q0 q1,pt x1 q0 q1]⟩)]⟩
def QL(x0 x1 x2 x3 x4:V):DE:=⟨[.ag 3 [.gs (q9 0) 0 8 9,.gs (q9 1) 0 6 14,nS],fc q0 q1 q0 q1 2,.gs (q9 3) 0 7 12],[h0 x0 x1,h7 x1 x2,g1 2 9,h10,g1 4 10,g1 5 11,g1 6 12,g1 7 13,g1 8 14,g4 9 2 3 7 6,g4 10 0 1 3 2,g4 11 0 2 6 4,g4 12 0 4 5 1,g4 13 1 5 7 3,g4 14 4 6 7 5],.gs (q9 128) 0 1 14,[(q9 128,⟨2,14,[.ag 14 [.gs (q9 129) 0 4 9,q0,q1,q0,q1,.st [102]]]⟩),(q9 129,⟨2,9,[pt q1 q1 x0,pt x3 q1 x0,pt x3 q1 x4,pt q1 q1 x4]⟩)]⟩
def QM(x0 x1 x2:V):DE:=⟨[.ag 3 [.gs (q9 0) 0 8 9,.gs (q9 1) 0 6 14,nS],fc q1 q0 q0 x0 2,.gs (q9 3) 0 7 12],[h1 x0 x1,h8 x0 x2,g1 2 9,h10,g1 4 10,g1 5 11,g1 6 12,g1 7 13,g1 8 14,g4 9 4 6 7 5,g4 10 0 1 3 2,g4 11 0 2 6 4,g4 12 0 4 5 1,g4 13 1 5 7 3,g4 14 2 3 7 6],.gs (q9 128) 0 1 14,[(q9 128,⟨2,14,[.ag 14 [.gs (q9 129) 0 4 9,q1,q0,q0,x0,.st [102]]]⟩),(q9 129,⟨2,9,[pt x0 q1 q1,pt x0 q0 q1,pt x0 q0 q0,pt x0 q1 q0]⟩)]⟩
def Ih:List DE:=[aD 3 Vi 4096,aD 3 Vj 64,aD 3 Vk 64,aD 3 Vm 64,aD 3 Vn 64,aD 3 Vo 1,aD 3 Vi 8259,aD 3 Vj 12417,aD 3 Vk 12417,aD 3 Vm 12417,aD 3 Vn 12417,aD 3 Vo 12354,aD 3 Vp 4096,aD 5 Vq 16777280,aD 3 Vr 64,aD 3 Vs 64,aD 5 QL 16777280,aD 3 QM 1,aD 3 Vp 8259,aD 5 Vq 536705,aD 3 Vr 12417,aD 3 Vs 12417,aD 5 QL 536705,aD 3 QM 12354]
def v6(x0 x1 x2 x3 x4 x5:V):DE:=⟨[.ag 2 [.gs (q9 0) 0 6 15,.gs (q9 1) 0 12 18],pt x0 x1 x2],[(q9 0,⟨2,15,[.ag 15 [qn,q0,q0,x3,.gs (q9 2) 0 1 1,ni 2,ni 1],.ag 15 [q0,q0,qn,q0,.gs (q9 3) 0 1 1,ni 1,ni 0],.ag 15 [q0,qn,q0,q0,.gs (q9 4) 0 1 1,ni 0,ni 2],.ag 15 [q0,q0,q1,q1,.gs (q9 5) 0 1 1,ni 0,ni 1],.ag 15 [q0,q1,q0,q1,.gs (q9 6) 0 1 1,ni 2,ni 0],.ag 15 [q1,q0,q0,x4,.gs (q9 7) 0 1 1,ni 1,ni 2]]⟩),(q9 1,⟨2,18,[.ag 18 [x5,q0,q0,x5,q0,q1],.ag 18 [x5,q0,q1,x5,q1,q1],.ag 18 [x5,q1,q0,x5,q1,q1],.ag 18 [x5,q0,q0,x5,q1,q0],.ag 18 [x5,q1,q0,x4,q1,q0],.ag 18 [x4,q0,q0,x4,q1,q0],.ag 18 [x5,q0,q0,x4,q0,q0],.ag 18 [x4,q0,q0,x4,q0,q1],.ag 18 [x5,q0,q1,x4,q0,q1],.ag 18 [x4,q0,q1,x4,q1,q1],.ag 18 [x5,q1,q1,x4,q1,q1],.ag 18 [x4,q1,q0,x4,q1,q1]]⟩),(q9 2,⟨2,1,[.gs (q9 8) 0 4 9]⟩),(q9 3,⟨2,1,[.gs (q9 9) 0 4 9]⟩),(q9 4,⟨2,1,[.gs (q9 10) 0 4 9]⟩),(q9 5,⟨2,1,[.gs (q9 11) 0 4 9]⟩),(q9 6,⟨2,1,[.gs (q9 12) 0 4 9]⟩),(q9 7,⟨2,1,[.gs (q9 13) 0 4 9]⟩),(q9 8,⟨2,9,[pt x5 q0 q0,pt x5 q0 q1,pt x5 q1 q1,pt x5 q1 q0]⟩),(q9 9,⟨2,9,[pt x5 q0 q0,pt x5 q1 q0,pt x4 q1 q0,pt x4 q0 q0]⟩),(q9 10,⟨2,9,[pt x5 q0 q0,pt x4 q0 q0,pt x4 q0 q1,pt x5 q0 q1]⟩),(q9 11,⟨2,9,[pt x5 q0 q1,pt x4 q0 q1,pt x4 q1 q1,pt x5 q1 q1]⟩),(q9 12,⟨2,9,[pt x5 q1 q0,pt x5 q1 q1,pt x4 q1 q1,pt x4 q1 q0]⟩),(q9 13,⟨2,9,[pt x4 q0 q0,pt x4 q1 q0,pt x4 q1 q1,pt x4 q0 q1]⟩)],ni 0,[]⟩
def Vt(x0 x1 x2 x3:V):DE:=⟨[.ag 2 [.gs (q9 0) 0 6 15,.gs (q9 1) 0 12 18],pt x0 qh qh],[(q9 0,⟨2,15,[.ag 15 [qn,q0,q0,x1,.gs (q9 2) 0 1 1,ni 2,ni 1],.ag 15 [q0,q0,qn,q0,.gs (q9 3) 0 1 1,ni 1,ni 0],.ag 15 [q0,qn,q0,q0,.gs (q9 4) 0 1 1,ni 0,ni 2],.ag 15 [q0,q0,q1,q1,.gs (q9 5) 0 1 1,ni 0,ni 1],.ag 15 [q0,q1,q0,q1,.gs (q9 6) 0 1 1,ni 2,ni 0],.ag 15 [q1,q0,q0,x2,.gs (q9 7) 0 1 1,ni 1,ni 2]]⟩),(q9 1,⟨2,18,[.ag 18 [x3,q0,q0,x3,q0,q1],.ag 18 [x3,q0,q1,x3,q1,q1],.ag 18 [x3,q1,q0,x3,q1,q1],.ag 18 [x3,q0,q0,x3,q1,q0],.ag 18 [x3,q1,q0,x2,q1,q0],.ag 18 [x2,q0,q0,x2,q1,q0],.ag 18 [x3,q0,q0,x2,q0,q0],.ag 18 [x2,q0,q0,x2,q0,q1],.ag 18 [x3,q0,q1,x2,q0,q1],.ag 18 [x2,q0,q1,x2,q1,q1],.ag 18 [x3,q1,q1,x2,q1,q1],.ag 18 [x2,q1,q0,x2,q1,q1]]⟩),(q9 2,⟨2,1,[.gs (q9 8) 0 4 9]⟩),(q9 3,⟨2,1,[.gs (q9 9) 0 4 9]⟩),(q9 4,⟨2,1,[.gs (q9 10) 0 4 9]⟩),(q9 5,⟨2,1,[.gs (q9 11) 0 4 9]⟩),(q9 6,⟨2,1,[.gs (q9 12) 0 4 9]⟩),(q9 7,⟨2,1,[.gs (q9 13) 0 4 9]⟩),(q9 8,⟨2,9,[pt x3 q0 q0,pt x3 q0 q1,pt x3 q1 q1,pt x3 q1 q0]⟩),(q9 9,⟨2,9,[pt x3 q0 q0,pt x3 q1 q0,pt x2 q1 q0,pt x2 q0 q0]⟩),(q9 10,⟨2,9,[pt x3 q0 q0,pt x2 q0 q0,pt x2 q0 q1,pt x3 q0 q1]⟩),(q9 11,⟨2,9,[pt x3 q0 q1,pt x2 q0 q1,pt x2 q1 q1,pt x3 q1 q1]⟩),(q9 12,⟨2,9,[pt x3 q1 q0,pt x3 q1 q1,pt x2 q1 q1,pt x2 q1 q0]⟩),(q9 13,⟨2,9,[pt x2 q0 q0,pt x2 q1 q0,pt x2 q1 q1,pt x2 q0 q1]⟩)],ni 1,[]⟩
def Mx:List DE:=[aD 6 v6 16793862,aD 4 Vt 4100,aD 6 v6 16802052,aD 6 v6 16793988,aD 6 v6 16797956,aD 6 v6 16793924,aD 6 v6 16793861,aD 6 v6 1108099332,aD 4 Vt 270533,aD 6 v6 1108107525,aD 6 v6 1108099461,aD 6 v6 1108103429,aD 6 v6 1108099397,aD 6 v6 1108099335,aD 6 v6 1108099328,aD 6 v6 1108107524,aD 6 v6 1108099460,aD 6 v6 1108103428,aD 6 v6 1108099396,aD 6 v6 16802053,aD 6 v6 16793989,aD 6 v6 16797957,aD 6 v6 16793925,aD 6 v6 16793858]
def Vu(x0 x1 x2:V):DE:=⟨[.ag 3 [.gs (q9 0) 0 8 9,.gs (q9 1) 0 6 14,nS]],[h0 x0 x1,(q9 1,⟨2,14,[fc qn q0 q0 x2 2,fc q0 q0 qn q0 3,fc q0 qn q0 q0 4,fc q0 q0 q1 q1 5,fc q0 q1 q0 q1 6,fc q1 q0 q0 x1 7]⟩),g1 2 8,g1 3 9,g1 4 10,g1 5 11,g1 6 12,g1 7 13,g4 8 0 1 3 2,g4 9 0 2 6 4,g4 10 0 4 5 1,g4 11 1 5 7 3,g4 12 2 3 7 6,g4 13 4 6 7 5],nS,[]⟩
def SZ:List DE:=[aD 3 Vu 64,aD 3 Vu 12417,⟨[.ag 3 [.gs (q9 0) 0 12 9,.gs (q9 1) 0 6 14,nS]],[(q9 0,⟨2,9,[pt q0 q1 q0,pt q0 q0 q0,pt q0 q0 q1,pt q0 q1 q1,pt q1 q0 q0,pt q1 q1 q0,pt (qi 2) q1 q0,pt (qi 2) q0 q0,pt q1 q0 q1,pt (qi 2) q0 q1,pt q1 q1 q1,pt (qi 2) q1 q1]⟩),(q9 1,⟨2,14,[fc qn q0 q0 q0 2,fc q0 q0 qn q0 3,fc q0 qn q0 q0 4,fc q0 q0 q1 q1 5,fc q0 q1 q0 q1 6,fc q1 q0 q0 (qi 2) 7]⟩),g1 2 8,(q9 3,⟨2,1,[.gs (q9 9) 0 6 1]⟩),(q9 4,⟨2,1,[.gs (q9 10) 0 6 1]⟩),(q9 5,⟨2,1,[.gs (q9 11) 0 6 1]⟩),(q9 6,⟨2,1,[.gs (q9 12) 0 6 1]⟩),g1 7 13,g4 8 0 1 2 3,(q9 9,⟨2,1,[ni 4,ni 1,ni 0,ni 5,ni 6,ni 7]⟩),(q9 10,⟨2,1,[ni 8,ni 2,ni 1,ni 4,ni 7,ni 9]⟩),(q9 11,⟨2,1,[ni 10,ni 3,ni 2,ni 8,ni 9,ni 11]⟩),(q9 12,⟨2,1,[ni 5,ni 0,ni 3,ni 10,ni 11,ni 6]⟩),g4 13 11 9 7 6],nS,[]⟩,⟨[.ag 3 [nS,nS,nS]],[],nS,[]⟩]
def tb1:List (Nat×Pt):=(32,.memoD Cl)::(89,.memoD Ih)::(169,.memoD Mx)::(75,.memoD SZ)::tb0
end
end Go.Proofs.YtamiaelfnfnegaaGreatDoor.Sx.Kx
