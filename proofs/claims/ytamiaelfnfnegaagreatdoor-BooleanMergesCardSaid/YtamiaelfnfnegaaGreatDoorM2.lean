/-
Own laws, part 2. No condition.
-/
import Derived.Test.YtamiaelfnfnegaaGreatDoorM1
import Derived.Test.YtamiaelfnfnegaaGreatDoorProg
import Derived.KernelRfl
namespace Go.Proofs.YtamiaelfnfnegaaGreatDoor.Sx
open Go Go.Proofs
set_option linter.unusedVariables false
set_option linter.unusedSimpArgs false
set_option maxRecDepth 20000
set_option maxHeartbeats 4000000
theorem hmix: Tryz.prog.follows .mixedOrders=true:=by kernel_rfl
theorem shrN{k:IntKind}(x s:Nat)(h:s<=k.bits):(x:Int).fdiv (2^(min ((s:Int).toNat) k.bits))=((x/2^s:Nat):Int):=by
 rw[q4Q,q5G h,Int.fdiv_eq_ediv_of_nonneg _ (by exact Int.le_of_lt (Int.pow_pos (by omega)))];simp
theorem Xu(x s:Nat)(h:s<=IntKind.bits .u64)(hx:x*2^s<18446744073709551616):IntKind.u64.wrap ((x:Int)*2^(min ((s:Int).toNat) (IntKind.bits .u64)))=((x*2^s:Nat):Int):=by
 rw[q4Q,q5G h];have:(x:Int)*2^s=((x*2^s:Nat):Int):=by simp
 rw[this];exact BK hx
theorem Bv(a b:List Nat):qe (a++b)=qe a+4294967296^a.length*qe b:=by
 induction a with
 |nil=>simp[qe]
 |cons u r ih=>
  simp only[List.cons_append,qe,ih,q56,q5U];rw[q5K,<-q5L,q5M 4294967296 (4294967296^r.length)];omega
theorem Bg{ls:List Nat}{n:Nat}(h:n<ls.length):qe (ls.take (n+1))=qe (ls.take n)+4294967296^n*ls.getD n 0:=by
 rw[q5p h,Bv,q5a,q5G (by omega)];simp[qe,q4X,h]
theorem NH(a:List Nat)(u:Nat)(h:u≠0):BV (a++[u])=true:=by
 induction a with
 |nil=>simp[BV,h]
 |cons v r ih=>rw[List.cons_append,S3 (by simp)];exact ih
theorem S4{ls:List Nat}{n:Nat}(hn:n<=ls.length)(h:n=0\/ls.getD (n-1) 0≠0):BV (ls.take n)=true:=by
 rcases h with rfl|h
 .rfl
 .by_cases e:n=0
  .subst e;rfl
  .have h1:n-1<ls.length:=by omega
   have h2:ls.take n=ls.take (n-1)++[ls[n-1]]:=by
    rw[<-q5p h1];congr 1;omega
   rw[h2];refine NH _ _ ?_;simpa[q4X,h1]using h
theorem Q6{ls:List Nat}{b n:Nat}(h: ∀u∈ls,u<b): ∀u∈ls.take n,u<b:=λu hu=>h u (q5i hu)
theorem Bf{ls:List Nat}{n:Nat}(hu: ∀u∈ls,u<4294967296)(hn:n<=ls.length)(hv:qe (ls.take n)=qe ls)(h:n=0\/ls.getD (n-1) 0≠0):ls.take n=limbs (qe ls):=by
 rw[<-hv,IQ (Q6 hu) (S4 hn h)]
theorem LE{ls:List Nat}{n:Nat}(hn:n<=ls.length)(h0:0<n)(hv:qe (ls.take n)=qe ls)(h:ls.getD (n-1) 0=0):qe (ls.take (n-1))=qe ls:=by
 have:=Bg (ls:=ls) (n:=n-1) (by omega);rw[show n-1+1=n by omega,h]at this;omega
theorem PK{ls:List Nat}{b:Nat}(hb:0<b)(h: ∀u∈ls,u<b)(i:Nat):ls.getD i 0<b:=by
 rw[q4X]
 cases hq:ls[i]? with
 |none=>simpa using hb
 |some u=>exact h u (q5h hq)
section
variable {P:Program}
theorem Wz{t ty:TypeId}{s b len d:Nat}{z:Array Value}{zs cs:List Atom}{parts:Array (Nat×Operand)}{vs:List Cmp}
  (hb:elB P t=some (s,b))(hz:elZ P t=some z)(hbig:Nat.ble (len*s) 16777216=true)(hzs:vG (DA (len*s) z)=some zs)(hl:parts.size=vs.length)
  (hf:afill (wR s) zs (List.zip (parts.toList.map (·.1)) vs)=some cs)(hm:jC d cs=false)(hcl:cs.length=len*s):
  OpOk P (.buildSlice t len parts) ty (List.zip (parts.toList.map (·.2)) (vs.map AV.c)) [] (.c (.one (.gs d len))) [(d,some (.grow s cs))]:=by
 intro dst pos after guard a w H β K Q hins _ _ hon hK;obtain⟨T,arr,hrun,hsat⟩:=Bc (a:=a) (β:=β) (H:=H) hb hz hbig hzs hl hf hins w;unfold Oper.wp
 have:(execOp a.eval ⟨dst,.buildSlice t len parts,ty,pos,after,guard⟩).run P w= .ok (.value (.slice (some ⟨w.heap.size,0,none⟩) len len)) (w.alloc (.cells arr T)):=by
  simp only[execOp,q64,hrun,q63,q65]
 rw[this];have hlen:cs.length=arr.toList.length:=hsat.length;have hlen2:arr.toList.length=arr.size:=Array.length_toList;refine hK _ _ H (β.set d (some (w.heap.size,len))) ?_ (.inr ⟨_,_,Bm.set_same _ _ _,rfl⟩) ?_
 .simpa[kwOf,qu,jk,look]using Step.alloc (β:=β) d len (.cells arr T) hon
 .intro k' b' hb'
  simp only[q5j,q62,q61]at hb';obtain⟨rfl,rfl⟩:=hb';refine .inr ⟨w.heap.size,len,arr,T,Bm.set_same _ _ _,vS w _,by omega,by omega,Sats.congr (Heap.Le.refl _) (λk'' hk''=>?_) (by rw[hlen,q5n];exact hsat)⟩;refine Bm.set_other _ _ λe=>?_
  subst e;rw[hm]at hk'';cases hk''
theorem E2(ρ:Nat->Nat)(cells:List CAtom):(cells.map CAtom.up).map (Atom.map ρ)=cells.map CAtom.up:=by
 rw[List.map_map];refine List.map_congr_left λa _=>?_
 cases a<;>rfl
theorem flnil{H:Heap}:(flP [] 0).p H (.slice none 0 0):=⟨none,0,rfl,q5B _,.inl rfl⟩
section
variable {ts tx ty ex:TypeId} {x y:Operand} {k d n m bytes:Nat}
end
end
section
def FzAt(k:Nat)(cells:List CAtom)(g:Option Nat)(β:Bm)(H:Heap):Prop:=
 (β k=none/\cells=[])\/ ∃b c arr,β k=some (b,c)/\H b=some arr/\CSats H cells (arr.toList.take cells.length)/\ ∀es,g=some es->cells.length<=c*es
section
variable (k:Nat) (cells:List CAtom) (g:Option Nat)
def RelA(a a':Atom):Prop:= ∀β H H' v,Heap.Le H H'->FzAt k cells g β H'->a.sat β H v->a'.sat β H' v
def RelAs:List Atom->List Atom->Prop
 |[],[]=>True
 |a::r,a'::r'=>RelA k cells g a a'/\RelAs r r'
 |_,_=>False
def RelV(a a':AV):Prop:= ∀β H H' v,Heap.Le H H'->FzAt k cells g β H'->a.sat β H v->a'.sat β H' v
def RelB(b b':Blk):Prop:=(∃l l',b= .rigid l/\b'= .rigid l'/\RelAs k cells g l l')\/(∃e l l',b= .grow e l/\b'= .grow e l'/\RelAs k cells g l l')\/(∃l,b= .mp l/\b'= .mp l)\/(∃l,b= .mc l/\b'= .mc l)
end
variable {k:Nat} {cells:List CAtom} {g:Option Nat}
theorem q09{a:Atom}:RelA k cells g a a:=λβ H H' v hle _ h=>Atom.sat_congr hle (λ_ _=>rfl) h
theorem Bb: ∀{l:List Atom},RelAs k cells g l l
 |[]=>trivial
 |_::_=>⟨q09,Bb⟩
theorem QB{a:AV}:RelV k cells g a a:=λβ H H' v hle _ h=>AV.sat_congr hle (λ_ _=>rfl) h
theorem RelAs.sats{β:Bm}{H H':Heap}(hle:Heap.Le H H')(hf:FzAt k cells g β H'): ∀{l l':List Atom}{vs:List Value},RelAs k cells g l l'->Sats β H l vs->Sats β H' l' vs
 |[],[],[],_,_=>trivial
 |_::_,_::_,_::_,h,hs=>⟨h.1 _ _ _ _ hle hf hs.1,RelAs.sats hle hf h.2 hs.2⟩
 |[],[],_::_,_,hs=>hs.elim
 |_::_,_::_,[],_,hs=>hs.elim
theorem RelAs.length: ∀{l l':List Atom},RelAs k cells g l l'->l.length=l'.length
 |[],[],_=>rfl
 |_::_,_::_,h=>by simp[RelAs.length h.2]
 |[],_::_,h=>h.elim
 |_::_,[],h=>h.elim
theorem q2W{a a':Atom}(h:RelA k cells g a a'):RelV k cells g (.c (.one a)) (.c (.one a')):=λβ H H' v hle hf hs=>h β H H' v hle hf hs
theorem q2V{l l':List Atom}(h:RelAs k cells g l l'):RelV k cells g (.c (.agg l)) (.c (.agg l')):=λβ H H' v hle hf⟨arr,h1,h2⟩=>⟨arr,h1,RelAs.sats hle hf h h2⟩
theorem Qs{b:Blk}:RelB k cells g b b:=by
 cases b with
 |rigid l=>exact .inl ⟨l,l,rfl,rfl,Bb⟩
 |grow e l=>exact .inr (.inl ⟨e,l,l,rfl,rfl,Bb⟩)
 |mp l=>exact .inr (.inr (.inl ⟨l,rfl,rfl⟩))
 |mc l=>exact .inr (.inr (.inr ⟨l,rfl,rfl⟩))
theorem Xf{l l':List Atom}(h:RelAs k cells g l l'):RelB k cells g (.rigid l) (.rigid l'):= .inl ⟨l,l',rfl,rfl,h⟩
theorem RelB.rep{β:Bm}{w:World}{H H':Heap}{q:Nat}{b b':Blk}(h:RelB k cells g b b')(hle:Heap.Le H H')(hf:FzAt k cells g β H')(hr:b.rep β w H q):b'.rep β w H' q:=by
 rcases h with⟨l,l',rfl,rfl,h⟩|⟨e,l,l',rfl,rfl,h⟩|⟨l,rfl,rfl⟩|⟨l,rfl,rfl⟩
 .obtain⟨b,c,arr,T,h1,h2,h3⟩:=hr
  exact⟨b,c,arr,T,h1,h2,RelAs.sats hle hf h h3⟩
 .have hl:=RelAs.length h
  rcases hr with⟨h1,h2⟩|⟨b,c,arr,T,h1,h2,h3,h4,h5⟩
  .refine .inl ⟨h1,?_⟩
   subst h2;exact List.length_eq_zero_iff.1 hl.symm
  .exact .inr ⟨b,c,arr,T,h1,h2,h3,by rw[<-hl];exact h4,by rw[<-hl];exact RelAs.sats hle hf h h5⟩
 .exact hr
 .exact Blk.rep_congr hr hle (λ_ _=>rfl) (λ_ _ _=>rfl)
theorem Wu{n:Nat}{Ks:List Nat}{st st':ASt}(hk:Nat.blt k 100000=true)(hKs: ∀k0∈Ks,look st.L k0≠none)
  (hL:(g=none/\look st.L k=some (.rigid (cells.map CAtom.up)))\/ ∃es,g=some es/\look st.L k=some (.grow es (cells.map CAtom.up)))
  (hm: ∀t av',look st'.m t=some av'-> ∃av,look st.m t=some av/\RelV k cells g av av')
  (hL': ∀q b,look st'.L q=some b->q≠k/\ ∃b0,look st.L q=some b0/\RelB k cells g b0 b):Ent n Ks st st':=by
 have hk:k<100000:=by simpa using hk
 intro E hn hK a w H β hr;have hkK:k∉E.Ks:=λh=>by have:=E.hKs k h;omega
 have hblk:(β k=none/\cells=[])\/ ∃b c arr T x,β k=some (b,c)/\qt st (2*k+1)=some (.bl x)/\w.heap[b]?=some (.cells arr T (0,0))/\CSats H cells (arr.toList.take cells.length)/\ ∀es,g=some es->cells.length<=c*es:=by
  rcases hL with⟨hg,hL⟩|⟨es,hg,hL⟩
  .have hx:qt st (2*k+1)=some (.bl (.rigid (cells.map CAtom.up))):=by rw[qj,hL];rfl
   obtain⟨b,c,arr,T,h1,h2,h3⟩:=hr.blk k _ hx;have hlen:=Sats.length h3;simp at hlen;exact .inr ⟨b,c,arr,T,_,h1,hx,h2,by rw[q5o (by simp;omega)];exact CSats.of_up h3,by subst hg;intro es h;cases h⟩
  .have hx:qt st (2*k+1)=some (.bl (.grow es (cells.map CAtom.up))):=by rw[qj,hL];rfl
   rcases hr.blk k _ hx with⟨h1,h2⟩|⟨b,c,arr,T,h1,h2,h3,h4,h5⟩
   .exact .inl ⟨h1,by simpa using h2⟩
   .rw[q58]at h5 h4
    exact .inr ⟨b,c,arr,T,_,h1,hx,h2,CSats.of_up h5,by subst hg;intro es' h;cases h;omega⟩
 rcases hblk with⟨hβ,hnil⟩|⟨b,c,arr,T,x,hβ,hx,hw,hsat,hcap⟩
 .have hf:FzAt k cells g β H:= .inl ⟨hβ,hnil⟩
  refine⟨H,β,⟨hr.defers,hr.size,?_,?_,?_,?_,hr.bor,hr.os,hr.tape,hr.output,hr.wsize,hr.frame,hr.hle,hr.hnew,hr.hon⟩⟩
  .intro t av ht
   rw[qL]at ht
   cases hl:look st'.m t with
   |none=>rw[hl]at ht;cases ht
   |some av1=>
    rw[hl]at ht;simp at ht;subst ht
    obtain⟨av0,h1,h2⟩:=hm _ _ hl;obtain⟨v,hv,hs⟩:=hr.slot t av0 (by rw[qL,h1];rfl);exact⟨v,hv,h2 β H H v (Heap.Le.refl _) hf hs⟩
  .intro q y hy
   rw[qj]at hy
   cases hl:look st'.L q with
   |none=>rw[hl]at hy;cases hy
   |some y'=>
    rw[hl]at hy;simp at hy;subst hy
    obtain⟨_,b0,h1,h2⟩:=hL' q _ hl;exact h2.rep (Heap.Le.refl _) hf (hr.blk q _ (by rw[qj,h1];rfl))
  .intro q y b' c' hy
   rw[qj]at hy
   cases hl:look st'.L q with
   |none=>rw[hl]at hy;cases hy
   |some y'=>
    obtain⟨_,b0,h1,h2⟩:=hL' q _ hl;exact hr.own q b0 b' c' (by rw[qj,h1];rfl)
  .intro q q' y y' b' c1 c2 hy hy' hne
   rw[qj]at hy hy'
   cases hl:look st'.L q with
   |none=>rw[hl]at hy;cases hy
   |some y1=>
    cases hl':look st'.L q' with
    |none=>rw[hl']at hy';cases hy'
    |some y1'=>
     obtain⟨_,b0,h1,_⟩:=hL' q _ hl;obtain⟨_,b1,h2,_⟩:=hL' q' _ hl';exact hr.inj q q' b0 b1 b' c1 c2 (by rw[qj,h1];rfl) (by rw[qj,h2];rfl) hne
 .obtain⟨o1,o2,o3⟩:=hr.own k x b c hx hβ
  have hle:=Heap.set_le arr o1;have hf:FzAt k cells g β (H.set b arr):= .inr ⟨b,c,arr,hβ,Heap.set_at _ _ _,hsat.mono hle,hcap⟩
  have hnotK:E.w0.heap.size<=b:=by
   rcases o3 with o3|⟨k0,hk0,c0,o3⟩
   .exact o3
   .exfalso
    have h1:=hKs k0 (by rw[<-hK];exact hk0)
    cases hl:look st.L k0 with
    |none=>exact h1 hl
    |some y=>
     have hne:k≠k0:=λe=>hkK (e▸hk0)
     exact hr.inj k k0 x y b c c0 hx (by rw[qj,hl];rfl) hne hβ (by rw[hr.bor k0 hk0];exact o3)
  refine⟨H.set b arr,β,⟨hr.defers,hr.size,?_,?_,?_,?_,hr.bor,hr.os,hr.tape,hr.output,hr.wsize,hr.frame,hr.hle.trans hle,?_,?_⟩⟩
  .intro t av ht
   rw[qL]at ht
   cases hl:look st'.m t with
   |none=>rw[hl]at ht;cases ht
   |some av1=>
    rw[hl]at ht;simp at ht;subst ht
    obtain⟨av0,h1,h2⟩:=hm _ _ hl;obtain⟨v,hv,hs⟩:=hr.slot t av0 (by rw[qL,h1];rfl);exact⟨v,hv,h2 β H _ v hle hf hs⟩
  .intro q y hy
   rw[qj]at hy
   cases hl:look st'.L q with
   |none=>rw[hl]at hy;cases hy
   |some y'=>
    rw[hl]at hy;simp at hy;subst hy
    obtain⟨_,b0,h1,h2⟩:=hL' q _ hl;exact h2.rep hle hf (hr.blk q _ (by rw[qj,h1];rfl))
  .intro q y b' c' hy hβ'
   rw[qj]at hy
   cases hl:look st'.L q with
   |none=>rw[hl]at hy;cases hy
   |some y'=>
    obtain⟨hqk,b0,h1,_⟩:=hL' q _ hl;have hq:qt st (2*q+1)=some (.bl b0):=by rw[qj,h1];rfl
    obtain⟨p1,p2,p3⟩:=hr.own q b0 b' c' hq hβ';refine⟨?_,p2,p3⟩
    have hne:b'≠b:=by
     intro e;subst e
     exact hr.inj q k b0 x b' c' c hq hx hqk hβ' hβ
    simp only[Heap.set,if_neg hne];exact p1
  .intro q q' y y' b' c1 c2 hy hy' hne
   rw[qj]at hy hy'
   cases hl:look st'.L q with
   |none=>rw[hl]at hy;cases hy
   |some y1=>
    cases hl':look st'.L q' with
    |none=>rw[hl']at hy';cases hy'
    |some y1'=>
     obtain⟨_,b0,h1,_⟩:=hL' q _ hl;obtain⟨_,b1,h2,_⟩:=hL' q' _ hl';exact hr.inj q q' b0 b1 b' c1 c2 (by rw[qj,h1];rfl) (by rw[qj,h2];rfl) hne
  .intro b' hb'
   by_cases e:b'=b
   .exact .inr (by omega)
   .simp only[Heap.set,if_neg e]at hb';exact hr.hnew b' hb'
  .intro b' cs hb'
   by_cases e:b'=b
   .subst e
    rw[Heap.set_at]at hb';cases hb'
    exact⟨T,(0,0),hw⟩
   .simp only[Heap.set,if_neg e]at hb';exact hr.hon b' cs hb'
theorem Sr{off n cap es l:Nat}{cells':List CAtom}(ho:off=l*es)(hc:n<=cap)(hl:l*es+n*es<=cells.length)(hcut:(cells.drop (l*es)).take (n*es)=cells'):
  RelA k cells g (.sl k off n cap) (.abs (flP cells' n)):=by
 rintro β H H' v hle hf ⟨b,c,hβ,rfl⟩
 rcases hf with⟨h1,_⟩|⟨b2,c2,arr,h1,h2,h3,h4⟩
 .rw[hβ]at h1;cases h1
 .rw[hβ]at h1;cases h1
  refine⟨_,cap,rfl,hc,.inr ⟨b,off,arr,rfl,h2,?_⟩⟩;have:=(h3.drop (l*es)).take (n*es);have e1:cells'.length=n*es:=by rw[<-hcut];simp;omega
  rw[List.drop_take,q5q,q5G (by omega),hcut]at this;rw[e1,ho];exact this
theorem q4w{n es:Nat}(he:g=some es)(h0:0<es)(hl:n*es=cells.length):RelA k cells g (.gs k n) (.abs (flP cells n)):=by
 intro β H H' v hle hf hs;rcases hf with⟨h1,hnil⟩|⟨b2,c2,arr,h1,h2,h3,h4⟩
 .rcases hs with⟨_,rfl,rfl⟩|⟨b,c,hβ,_⟩
  .exact⟨none,0,rfl,q5B _,.inl hnil⟩
  .rw[hβ]at h1;cases h1
 .rcases hs with⟨hβ,_⟩|⟨b,c,hβ,rfl⟩
  .rw[hβ]at h1;cases h1
  .rw[hβ]at h1;cases h1
   have:=h4 es he;rw[<-hl]at this;exact⟨_,_,rfl,Nat.le_of_mul_le_mul_right this h0,.inr ⟨_,0,arr,rfl,h2,by simpa using h3⟩⟩
def AImp(a b:Atom):Prop:= ∀β H v,a.sat β H v->b.sat β H v
def AImps:List Atom->List Atom->Prop
 |[],[]=>True
 |a::r,b::s=>AImp a b/\AImps r s
 |_,_=>False
def CImp(a b:Cmp):Prop:= ∀β H v,a.sat β H v->b.sat β H v
def CImps:List Cmp->List Cmp->Prop
 |[],[]=>True
 |a::r,b::s=>CImp a b/\CImps r s
 |_,_=>False
theorem AImps.sats{β:Bm}{H:Heap}: ∀{l l':List Atom}{vs:List Value},AImps l l'->Sats β H l vs->Sats β H l' vs
 |[],[],[],_,_=>trivial
 |_::_,_::_,_::_,h,hs=>⟨h.1 _ _ _ hs.1,AImps.sats h.2 hs.2⟩
 |[],[],_::_,_,hs=>hs.elim
 |_::_,_::_,[],_,hs=>hs.elim
theorem CImps.sats{β:Bm}{H:Heap}: ∀{l l':List Cmp}{vs:List Value},CImps l l'->CmpSats β H l vs->CmpSats β H l' vs
 |[],[],[],_,_=>trivial
 |_::_,_::_,_::_,h,hs=>⟨h.1 _ _ _ hs.1,CImps.sats h.2 hs.2⟩
 |[],[],_::_,_,hs=>hs.elim
 |_::_,_::_,[],_,hs=>hs.elim
theorem Pk{a:Atom}:AImp a a:=λ_ _ _ h=>h
theorem MO{a b:Atom}(h:AImp a b):CImp (.one a) (.one b):=h
theorem MN{l l':List Atom}(h:AImps l l'):CImp (.agg l) (.agg l'):=λβ H v⟨arr,h1,h2⟩=>⟨arr,h1,AImps.sats h h2⟩
theorem XU{a b:Cmp}(h:a=b):CImp a b:=λ_ _ _ k=>h▸k
theorem JH{a:Cmp}:CImp a a:=λ_ _ _ h=>h
theorem IK{a b:Cmp}(h:CImp a b): ∀β H v,(AV.c a).sat β H v->(AV.c b).sat β H v:=h
theorem Zp{l l':List Cmp}(h:CImps l l'): ∀β H v,(AV.tup l).sat β H v->(AV.tup l').sat β H v:=λβ H v⟨arr,h1,h2⟩=>⟨arr,h1,CImps.sats h h2⟩
def VImps:List AV->List AV->Prop
 |[],[]=>True
 |a::r,b::s=>(∀β H v,a.sat β H v->b.sat β H v)/\VImps r s
 |_,_=>False
theorem VImps.avs{β:Bm}{H:Heap}: ∀{l l':List AV}{vs:List Value},VImps l l'->AVs β H l vs->AVs β H l' vs
 |[],[],[],_,_=>trivial
 |_::_,_::_,_::_,h,hs=>⟨h.1 _ _ _ hs.1,VImps.avs h.2 hs.2⟩
 |[],[],_::_,_,hs=>hs.elim
 |_::_,_::_,[],_,hs=>hs.elim
theorem QO{a:AV}: ∀β H v,a.sat β H v->a.sat β H v:=λ_ _ _ h=>h
theorem EX{P:Program}{f:FuncId}{ps ps':List AV}{kin:List (Nat×Blk)}{R:AV}{Lw:List (Nat×Option Blk)}(hi:VImps ps' ps)(h:SigG P f ps kin R Lw):SigG P f ps' kin R Lw:=
 ⟨h.1,λvs w H β ha=>h.2 vs w H β (hi.avs ha)⟩
def ren(K k:Nat):Nat->Nat:=λq=>if q=K then k else q
theorem QH{P:Program}{f:FuncId}{ps ps':List AV}{K k:Nat}{x y x' y':Blk}{R R':AV}(h:SigG P f ps [(K,x)] R [(K,some y)])
  (ha:ps.map (AV.map (ren K k))=ps')(hx:x.map (ren K k)=x')(hR:R.map (ren K k)=R')(hy:y.map (ren K k)=y'):SigG P f ps' [(k,x')] R' [(k,some y')]:=by
 subst ha hx hR hy;have hρ:ren K k K=k:=by simp[ren]
 refine⟨h.1,λvs w H β hargs hkin hdis hon=>?_⟩
 have hargs':AVs (λq=>β (ren K k q)) H ps vs:=by
  clear hkin hdis
  induction ps generalizing vs with
  |nil=>cases vs with
   |nil=>trivial
   |cons=>exact hargs.elim
  |cons a r ih=>cases vs with
   |nil=>exact hargs.elim
   |cons v vs=>
    refine⟨AV.sat_map.1 hargs.1,?_⟩;clear ih h;have hr:=hargs.2;clear hargs
    induction r generalizing vs with
    |nil=>cases vs with
     |nil=>trivial
     |cons=>exact hr.elim
    |cons a r ih=>cases vs with
     |nil=>exact hr.elim
     |cons v vs=>exact⟨AV.sat_map.1 hr.1,ih vs hr.2⟩
 have hk1:kwOf [(k,x.map (ren K k))] [(k,some (y.map (ren K k)))]=[k]:=by simp[kwOf,look]
 have hk2:qu [(k,x.map (ren K k))] [(k,some (y.map (ren K k)))]=[]:=by simp[qu,look]
 have hK1:kwOf [(K,x)] [(K,some y)]=[K]:=by simp[kwOf,look]
 have hK2:qu [(K,x)] [(K,some y)]=[]:=by simp[qu,look]
 refine Calls.mono (h.2 vs w H (λq=>β (ren K k q)) hargs' ?_ ?_ hon) ?_
 .intro p hp
  simp only[q5j]at hp;subst hp
  obtain⟨h1,h2⟩:=hkin (k,x.map (ren K k)) (by simp);refine⟨Blk.rep_map.1 (by rw[hρ];exact h1),λb c hb=>?_⟩;exact h2 b c (by simpa[hρ]using hb)
 .intro p hp p' hp' hne
  simp only[q5j]at hp hp';subst hp;subst hp';exact absurd rfl hne
 .rintro e w' ⟨v,H',β',he,hs,hv,hb⟩
  have hβ:β'=λq=>β (ren K k q):=funext λq=>hs.beta q (by rw[hK2];simp)
  subst hβ;refine⟨v,H',β,he,⟨hs.os,hs.tape,hs.output,hs.size,?_,hs.hle,hs.hnew,hs.hon,λ_ _=>rfl,?_,?_⟩,AV.sat_map.2 hv,?_⟩
  .intro b hbs hne
   refine hs.keep b hbs ?_;rw[hK1];rw[hk1]at hne
   intro q hq c;simp only[q5j]at hq;subst hq
   simpa[hρ]using hne k (by simp) c
  .rw[hk2];intro q hq;simp at hq
  .rw[hk2];intro q hq;simp at hq
  .intro q b hqb
   simp only[q5j,q62,q61]at hqb;obtain⟨rfl,rfl⟩:=hqb;have:=Blk.rep_map.2 (hb K y (by simp))
   rwa [hρ]at this
end
theorem jN(ls:List Nat)(n:Nat):qe (ls.take (n+1))=qe (ls.take n)+4294967296^n*ls.getD n 0:=by
 rcases q5F n ls.length with h|h
 .exact Bg h
 .rw[q5o (by omega),q5o h]
  simp[q4X,q52 h]
theorem LM(ls:List Nat)(n x:Nat)(h:n<ls.length):(ls.set n x).take (n+1)=ls.take n++[x]:=by
 rw[q5p (by simpa using h),List.take_set,List.getElem_set_self,List.set_eq_of_length_le (by simp;omega)]
theorem I5{ls:List Nat}{n x:Nat}(h:n<ls.length):qe ((ls.set n x).take (n+1))=qe (ls.take n)+4294967296^n*x:=by
 rw[LM ls n x h,Bv,q5a,q5G (by omega)];simp[qe]
theorem C1{ls:List Nat}{b n x:Nat}(h: ∀u∈ls,u<b)(hx:x<b): ∀u∈ls.set n x,u<b:=by
 intro u hu;rcases List.mem_or_eq_of_mem_set hu with h'|rfl
 .exact h u h'
 .exact hx
theorem rep_lt(n:Nat): ∀u∈List.replicate n 0,u<4294967296:=by
 intro u hu;rw[List.eq_of_mem_replicate hu];omega
theorem qz(x i:Nat):(limbs x).getD i 0<4294967296:=PK (by omega) (vr x) i
theorem wk{ls:List Nat}{n:Nat}(h:ls.length<=n):ls.take n=ls:=q5o h
theorem wM{x y:Nat}(h:x<=y):(limbs x).length<=(limbs y).length:=q00 h
theorem D4:limbs 1=[1]:=by rw[vM (by omega)];rfl
theorem q1Q:(limbs 1).length=1:=by rw[D4];rfl
def j9(x y:Nat):Int:=if x<y then-1 else if x=y then 0 else 1
theorem Ip{x y:Nat}(h:(limbs x).length<(limbs y).length):x<y:=by
 rcases q5F x y with h'|h'
 .exact h'
 .have:=wM h';omega
theorem Jw(ls:List Nat)(i:Nat):qe ls=qe (ls.take i)+4294967296^(min i ls.length)*qe (ls.drop i):=by
 conv=>lhs;rw[<-List.take_append_drop i ls]
 rw[Bv,q5a]
theorem Oy{ls:List Nat}(h: ∀u∈ls,u<4294967296){i:Nat}(hi:i<=ls.length):qe (ls.take i)<4294967296^i:=by
 have:=zV (ls.take i) (Q6 h)
 rwa [q5a,q5G hi]at this
theorem MU{x y i:Nat}(hl:(limbs x).length=(limbs y).length)(hi:i<(limbs x).length)(ha:(limbs x).drop (i+1)=(limbs y).drop (i+1)):
  ((limbs x).getD i 0=(limbs y).getD i 0->(limbs x).drop i=(limbs y).drop i)/\((limbs x).getD i 0<(limbs y).getD i 0->x<y):=by
 have e: ∀z,i<(limbs z).length->(limbs z).drop i=(limbs z).getD i 0::(limbs z).drop (i+1):=by
  intro z hz;rw[List.drop_eq_getElem_cons hz];simp[q4X,hz]
 constructor
 .intro h
  rw[e x hi,e y (by omega),ha,h]
 .intro h
  have v: ∀z,i<(limbs z).length->z=qe ((limbs z).take i)+4294967296^i*((limbs z).getD i 0+4294967296*qe ((limbs z).drop (i+1))):=by
   intro z hz;have h1:=Jw (limbs z) i;rw[j8,q5G (by omega),e z hz,qe]at h1;exact h1
  have h1:=v x hi;have h2:=v y (by omega);have h3:=Oy (vr x) (i:=i) (by omega);rw[ha]at h1
  have h4:4294967296^i*((limbs x).getD i 0+4294967296*qe ((limbs y).drop (i+1)))+4294967296^i<=4294967296^i*((limbs y).getD i 0+4294967296*qe ((limbs y).drop (i+1))):=by
   rw[<-Nat.mul_succ];exact Nat.mul_le_mul_left _ (by omega)
  omega
theorem q18{x y:Nat}(h:(limbs x).drop 0=(limbs y).drop 0):x=y:=by
 have:=congrArg qe h;simpa[j8]using this
structure SubI (x y i c:Nat) (out:List Nat):Prop where
 hi:i<=(limbs x).length
 hl:out.length=(limbs x).length
 hu: ∀u∈out,u<4294967296
 hc:c<=1
 hv:qe (out.take i)+qe ((limbs y).take i)=qe ((limbs x).take i)+4294967296^i*c
theorem SubI.start(x y:Nat):SubI x y 0 0 (List.replicate (limbs x).length 0):=⟨by omega,by simp,rep_lt _,by omega,by simp[qe]⟩
theorem Ts: ∃f:Nat->Nat->Nat,∀a s,f a s=(a+18446744073709551616-s)%18446744073709551616:=⟨_,λ_ _=>rfl⟩
noncomputable def dif:Nat->Nat->Nat:=Classical.choose Ts
theorem N2(a s:Nat):dif a s=(a+18446744073709551616-s)%18446744073709551616:=Classical.choose_spec Ts a s
theorem SubI.step{x y i c s:Nat}{out:List Nat}(h:SubI x y i c out)(hi:i<(limbs x).length)(hs:s=c+(limbs y).getD i 0):
  SubI x y (i+1) (dif ((limbs x).getD i 0) s/9223372036854775808) (out.set i (dif ((limbs x).getD i 0) s%4294967296)):=by
 have h1:=qz x i;have h2:=qz y i;have hlen:=h.hl;have hc:=h.hc;simp only[N2];generalize hx:(limbs x).getD i 0=a at*;generalize hy:(limbs y).getD i 0=b at*;have key:(a+18446744073709551616-s)%18446744073709551616%4294967296+s=a+4294967296*((a+18446744073709551616-s)%18446744073709551616/9223372036854775808):=by omega
 refine⟨hi,by simp[h.hl],C1 h.hu (q5I _ (by omega)),by omega,?_⟩;rw[I5 (by omega),jN,jN,q5U,hx,hy];have:=h.hv;generalize(a+18446744073709551616-s)%18446744073709551616/9223372036854775808=q at*;generalize(a+18446744073709551616-s)%18446744073709551616%4294967296=r at*;have e:=congrArg (4294967296^i* ·) key;simp only[q5K,hs]at e;rw[q5L];omega
theorem SubI.fin{x y c:Nat}{out:List Nat}(h:SubI x y (limbs x).length c out)(hxy:y<=x):qe out=x-y/\(∀u∈out,u<4294967296):=by
 have hyx:=wM hxy;refine⟨?_,h.hu⟩;have:=h.hv;rw[wk (by rw[h.hl];exact q5B _),wk (q5B _),wk hyx,j8,j8]at this;have h1:=zV out h.hu;rw[h.hl]at h1;have hc:=h.hc;rcases q5x c with e|e
 .subst e;omega
 .have:c=1:=by omega
  subst this;omega
structure MulI (x y i:Nat) (out:List Nat):Prop where
 hi:i<=(limbs x).length
 hl:out.length=(limbs x).length+(limbs y).length
 hu: ∀u∈out,u<4294967296
 hv:qe out=qe ((limbs x).take i)*y
 hz: ∀j,i+(limbs y).length<=j->out.getD j 0=0
structure MulJ (x y i a j c:Nat) (o0 out:List Nat):Prop where
 hj:j<=(limbs y).length
 hl:out.length=(limbs x).length+(limbs y).length
 hu: ∀u∈out,u<4294967296
 hc:c<4294967296
 hlo:out.drop (i+j)=o0.drop (i+j)
 hv:qe (out.take (i+j))+4294967296^(i+j)*c=qe (o0.take (i+j))+4294967296^i*(a*qe ((limbs y).take j))
theorem MulI.start(x y:Nat):MulI x y 0 (List.replicate ((limbs x).length+(limbs y).length) 0):=by
 refine⟨by omega,by simp,rep_lt _,?_,?_⟩
 .have: ∀n,qe (List.replicate n 0)=0:=by
   intro n;induction n with
   |zero=>rfl
   |succ n ih=>simp[List.replicate_succ,qe,ih]
  rw[this];simp[qe]
 .intro j _
  rw[q4X,List.getElem?_replicate];split<;>rfl
theorem MulJ.start{x y i a:Nat}{out:List Nat}(h:MulI x y i out):MulJ x y i a 0 0 out out:=⟨by omega,h.hl,h.hu,by omega,rfl,by simp[qe]⟩
theorem KZ(l:List Nat)(k:Nat):l.getD k 0=(l.drop k).getD 0 0:=by simp[q4X]
theorem MulJ.step{x y i a j c s:Nat}{o0 out:List Nat}(h:MulJ x y i a j c o0 out)(hi:i<(limbs x).length)(hj:j<(limbs y).length)(ha:a<4294967296)
  (hs:s=c+(a*(limbs y).getD j 0+out.getD (i+j) 0)):MulJ x y i a (j+1) (s/4294967296) o0 (out.set (i+j) (s%4294967296))/\s<18446744073709551616:=by
 have h2:=qz y j;have hlen:=h.hl;have h3:out.getD (i+j) 0<4294967296:=PK (by omega) h.hu _;have hm:a*(limbs y).getD j 0<=4294967295*4294967295:=q5N (by omega) (by omega);have hc:=h.hc;have hs2:s<18446744073709551616:=by omega
 have ho:o0.getD (i+j) 0=out.getD (i+j) 0:=by rw[KZ o0,KZ out,h.hlo]
 refine⟨⟨hj,by simp[h.hl],C1 h.hu (q5I _ (by omega)),by omega,?_,?_⟩,hs2⟩
 .rw[<-q5r,List.drop_set_of_lt (by omega)]
  have:=congrArg (List.drop 1) h.hlo;simpa[q4S]using this
 .rw[<-q5r,I5 (by omega),jN,jN,q5U]
  have:=h.hv
  have e:4294967296^(i+j)*(s%4294967296)+4294967296^(i+j)*4294967296*(s/4294967296)=4294967296^(i+j)*s:=by
   rw[q5L,<-q5K,Nat.mod_add_div]
  rw[q5r,e,hs,ho,q5K,q5K,q5K,q5K]
  have e2:4294967296^i*(a*(4294967296^j*(limbs y).getD j 0))=4294967296^(i+j)*(a*(limbs y).getD j 0):=by
   rw[q5R,q5L,<-q5L a,q5M a (4294967296^j),q5L (4294967296^j)]
  rw[e2];omega
theorem MulJ.fin{x y i c:Nat}{o0 out:List Nat}(hI:MulI x y i o0)(hi:i<(limbs x).length)(h:MulJ x y i ((limbs x).getD i 0) (limbs y).length c o0 out):
  MulI x y (i+1) (out.set (i+(limbs y).length) (c%4294967296)):=by
 have hlen:=h.hl;have hc:=h.hc;rw[q5H hc];have hz:=hI.hz
 have hzo: ∀j,i+(limbs y).length<=j->out.getD j 0=0:=by
  intro j hj;have:=hz j hj
  have e: ∀l:List Nat,l.getD j 0=(l.drop (i+(limbs y).length)).getD (j-(i+(limbs y).length)) 0:=by
   intro l;simp only[q4X,q50];rw[show i+(limbs y).length+(j-(i+(limbs y).length))=j by omega]
  rw[e out,h.hlo,<-e o0];exact this
 have valz: ∀(l:List Nat)(k:Nat),(∀j,k<=j->l.getD j 0=0)->qe l=qe (l.take k):=by
  intro l k hk;have h1:=Jw l k
  have h2:qe (l.drop k)=0:=by
   have: ∀m:List Nat,(∀j,m.getD j 0=0)->qe m=0:=by
    intro m
    induction m with
    |nil=>intro _;rfl
    |cons u r ih=>
     intro hm;have h0:=hm 0;simp at h0;rw[qe,ih (λj=>by simpa using hm (j+1)),h0]
   refine this _ λj=>?_
   have:=hk (k+j) (by omega);simpa[q4X,q50]using this
  rw[h1,h2];simp
 refine⟨hi,by simp[h.hl],C1 h.hu hc,?_,?_⟩
 .have h1: ∀j,i+(limbs y).length+1<=j->(out.set (i+(limbs y).length) c).getD j 0=0:=by
   intro j hj;rw[q4X,List.getElem?_set_ne (by omega),<-q4X];exact hzo j (by omega)
  rw[valz _ _ h1,I5 (by omega),h.hv,<-valz o0 _ hz,hI.hv,wk (q5B _),j8,jN,q5s,q5L]
 .intro j hj
  rw[q4X,List.getElem?_set_ne (by omega),<-q4X];exact hzo j (by omega)
theorem MulI.skip{x y i:Nat}{out:List Nat}(h:MulI x y i out)(hi:i<(limbs x).length)(h0:(limbs x).getD i 0=0):MulI x y (i+1) out:=by
 refine⟨hi,h.hl,h.hu,?_,λj hj=>h.hz j (by omega)⟩;rw[h.hv,jN,h0];simp
theorem MulI.fin{x y:Nat}{out:List Nat}(h:MulI x y (limbs x).length out):qe out=x*y:=by
 rw[h.hv,wk (q5B _),j8]
theorem zt{x y:Nat}:j9 x y<0↔x<y:=by
 unfold j9;split
 .simp;assumption
 .split<;>simp<;>omega
theorem DC{x y:Nat}:j9 x y=0↔x=y:=by
 unfold j9;split
 .simp;omega
 .split<;>simp<;>omega
theorem q3U(x y:Nat): -1<=j9 x y/\j9 x y<=1:=by
 unfold j9;split
 .simp
 .split<;>simp
theorem ofInt_nat(w n:Nat):BitVec.ofInt w (n:Int)=BitVec.ofNat w n:=by
 exact BitVec.ofInt_natCast w n
theorem q1V{w x s b:Nat}(hb:b<2^s):x*2^s|||b=x*2^s+b:=by
 rw[q5M,Nat.two_pow_add_eq_or_of_lt hb]
theorem Qi{a b:Nat}(x s:Nat)(hab:a=x*2^s)(hb:b<2^s)(h:a+b<18446744073709551616):
  IntKind.u64.wrap ((BitVec.ofInt (IntKind.bits .u64) (a:Int)|||BitVec.ofInt (IntKind.bits .u64) (b:Int)).toNat)=((a+b:Nat):Int):=by
 rw[ofInt_nat,ofInt_nat,BitVec.toNat_or,BitVec.toNat_ofNat,BitVec.toNat_ofNat];have e:(2:Nat)^(IntKind.bits .u64)=18446744073709551616:=by decide
 rw[e,q5H (by omega),q5H (by omega),hab,q1V (w:=0) hb,<-hab];exact BK h
theorem X7{a b:Nat}(x s:Nat)(hab:a=x*2^s)(hb:b<2^s)(h:b+a<18446744073709551616):
  IntKind.u64.wrap ((BitVec.ofInt (IntKind.bits .u64) (b:Int)|||BitVec.ofInt (IntKind.bits .u64) (a:Int)).toNat)=((b+a:Nat):Int):=by
 rw[BitVec.or_comm,Qi x s hab hb (by omega),Nat.add_comm]
def bl(n:Nat):Nat:=if n=0 then 0 else n.log2+1
theorem YJ:bl 0=0:=rfl
theorem XT(n:Nat):n<2^bl n:=by
 unfold bl;split
 .subst n;simp
 .exact Nat.lt_log2_self
theorem R6{n:Nat}(h:n≠0):2^(bl n-1)<=n:=by
 unfold bl;rw[if_neg h];exact Nat.log2_self_le h
theorem q3O{n k:Nat}(h1:2^k<=n)(h2:n<2^(k+1)):bl n=k+1:=by
 have hn:n≠0:=by have:=q5T (n:=k) (show 0<2 by omega);omega
 unfold bl;rw[if_neg hn,(Nat.log2_eq_iff hn).2 ⟨h1,h2⟩]
theorem Ee{n k:Nat}(h:2^k<=n):bl n=bl (n/2^k)+k:=by
 have hp:=q5T (n:=k) (show 0<2 by omega);have h0:n/2^k≠0:=by have:=Nat.div_pos h hp;omega
 have h1:=R6 h0;have h2:=XT (n/2^k)
 have hb:0<bl (n/2^k):=by
  unfold bl;rw[if_neg h0];omega
 have:=q3O (n:=n) (k:=bl (n/2^k) -1+k) (by
  rw[q5R];exact q5C (q5O _ h1) (Nat.div_mul_le_self n _)) (by
  rw[show bl (n/2^k) -1+k+1=bl (n/2^k)+k by omega,q5R]
  exact(Nat.div_lt_iff_lt_mul hp).1 h2)
 omega
theorem q14{x:Nat}(h:x≠0):0<bl x:=by unfold bl;rw[if_neg h];omega
theorem AN{x:Nat}(h:0<(limbs x).length):x=qe ((limbs x).take ((limbs x).length-1))+4294967296^((limbs x).length-1)*(limbs x).getD ((limbs x).length-1) 0:=by
 have:=Bg (ls:=limbs x) (n:=(limbs x).length-1) (by omega);rw[show(limbs x).length-1+1=(limbs x).length by omega,q5n,j8]at this;exact this
theorem LJ{x:Nat}(h:0<(limbs x).length):(limbs x).getD ((limbs x).length-1) 0≠0:=by
 intro e;have h1:=AN h;rw[e,Nat.mul_zero,q5t]at h1;have h2:=zV ((limbs x).take ((limbs x).length-1)) (λu hu=>vr x u (q5i hu));rw[<-h1,q5a,q5G (by omega)]at h2;have:=S2 h2;unfold nl at this;omega
theorem YI{x:Nat}(h:0<(limbs x).length):32*((limbs x).length-1)+bl ((limbs x).getD ((limbs x).length-1) 0)=bl x:=by
 have h1:=AN h;have h2:=zV ((limbs x).take ((limbs x).length-1)) (λu hu=>vr x u (q5i hu));rw[q5a,q5G (by omega)]at h2;have h3:=LJ h;generalize(limbs x).getD ((limbs x).length-1) 0=u at*;generalize hn:(limbs x).length-1=n at*;generalize qe ((limbs x).take n)=v at*;have e:(4294967296:Nat)^n=2^(32*n):=by rw[Nat.pow_mul]
 rw[e]at h1 h2
 have hx:x/2^(32*n)=u:=by
  rw[h1,Nat.add_mul_div_left _ _ (q5T (by omega)),Nat.div_eq_of_lt h2,q5W]
 have:=Ee (n:=x) (k:=32*n) (by
  rw[h1];have:2^(32*n)*1<=2^(32*n)*u:=Nat.mul_le_mul_left _ (by omega)
  omega)
 rw[hx]at this;omega
theorem Cm{x:Nat}:bl x=0↔x=0:=by
 constructor
 .intro h
  by_cases e:x=0
  .exact e
  .have:=q14 e;omega
 .rintro rfl;rfl
theorem nl0{x:Nat}:(limbs x).length=0↔x=0:=S1
structure SmallI (x u i r:Nat) (out:List Nat):Prop where
 hi:i<=(limbs x).length
 hl:out.length=(limbs x).length
 hu: ∀v∈out,v<4294967296
 hr:r<u
 hv:qe (out.drop i)*u+r=qe ((limbs x).drop i)
theorem SmallI.start{x u:Nat}(hu:0<u):SmallI x u (limbs x).length 0 (List.replicate (limbs x).length 0):=by
 refine⟨q5B _,by simp,rep_lt _,hu,?_⟩;rw[List.drop_eq_nil_of_le (by simp),List.drop_eq_nil_of_le (q5B _)];simp[qe]
theorem Ga{ls:List Nat}{i:Nat}(h:i<ls.length):qe (ls.drop i)=ls.getD i 0+4294967296*qe (ls.drop (i+1)):=by
 rw[List.drop_eq_getElem_cons h,qe];simp[q4X,h]
theorem SmallI.step{x u i r d:Nat}{out:List Nat}(h:SmallI x u i r out)(h0:0<i)(hd:d=r*4294967296+(limbs x).getD (i-1) 0):
  SmallI x u (i-1) (d%u) (out.set (i-1) (d/u%4294967296)):=by
 have hlen:=h.hl;have hi:=h.hi;have hr:=h.hr;have hg:=qz x (i-1)
 have hq:d/u<4294967296:=by
  rw[Nat.div_lt_iff_lt_mul (by omega)];have:(r+1)*4294967296<=u*4294967296:=q5O _ (by omega);rw[q5M 4294967296 u];omega
 refine⟨by omega,by simp[h.hl],C1 h.hu (q5I _ (by omega)),q5I _ (by omega),?_⟩;have e1:=Ga (ls:=limbs x) (i:=i-1) (by omega);have e2:=Ga (ls:=out.set (i-1) (d/u%4294967296)) (i:=i-1) (by simp;omega);rw[show i-1+1=i by omega]at e1 e2;have e3:(out.set (i-1) (d/u%4294967296)).drop i=out.drop i:=List.drop_set_of_lt (by omega)
 have e4:(out.set (i-1) (d/u%4294967296)).getD (i-1) 0=d/u:=by
  rw[q4X,List.getElem?_set_self (by omega)];simp;omega
 rw[e1,e2,e3,e4,q5s,q5L];have:=h.hv;have hdm:=Nat.div_add_mod d u;rw[q5M u]at hdm;omega
theorem SmallI.fin{x u r:Nat}{out:List Nat}(h:SmallI x u 0 r out):qe out=x/u/\r=x%u:=by
 have:=h.hv;have hr:=h.hr;rw[q4U,q4U,j8]at this;constructor
 .rw[<-this,q5M,Nat.mul_add_div (by omega),Nat.div_eq_of_lt hr,q5t]
 .rw[<-this,q5M,Nat.mul_add_mod,q5H hr]
theorem VS{x i:Nat}(h:i<(limbs x).length):qe ((limbs x).drop (i+1))*4294967296+(limbs x).getD i 0=qe ((limbs x).drop i):=by
 rw[Ga h];omega
theorem q0I{x i:Nat}(h:(limbs x).length<=2)(hi:0<i):qe ((limbs x).drop i)<4294967296:=by
 have h1:=zV ((limbs x).drop i) (λu hu=>vr x u (List.mem_of_mem_drop hu));have h2:(4294967296:Nat)^((limbs x).drop i).length<=4294967296^1:=q5S (by omega) (by simp;omega);omega
def padL:Nat->Nat->List Nat
 |_,0=>[]
 |v,n+1=>v%4294967296::padL (v/4294967296) n
theorem NY: ∀{ls:List Nat},(∀u∈ls,u<4294967296)->ls=padL (qe ls) ls.length
 |[],_=>rfl
 |u::r,h=>by
  have hu:=h u q5f;have ih:=NY (ls:=r) (λv hv=>h v (q5e _ hv));rw[qe,q56,padL];have e1:(u+4294967296*qe r)%4294967296=u:=by omega
  have e2:(u+4294967296*qe r)/4294967296=qe r:=by omega
  rw[e1,e2,<-ih]
theorem Um{x:Nat}(h:(limbs x).length<=2):x<18446744073709551616:=by
 have h1:=Ue x;have h2:(4294967296:Nat)^nl x<=4294967296^2:=q5S (by omega) h;omega
section
section
variable {P:Program}
theorem Jp{t e:TypeId}{ie:TypeInfo}(h:P.underlying t=some (.slice e))(he:P.info? e=some ie)(a:Option Addr)(len cap:Nat)(lo:Option (IntKind×Int))(k:IntKind)(i:Int){l r:Nat}
  (hl:(match lo with|some (_,i)=>i|none=>0)=(l:Int))(hr:i=(r:Int))(hlr:l<=r)(hrc:r<=cap)(w:World):
  (Instr.sliceAt t (.slice a len cap) (lo.map λp=> .int p.1 p.2) (some (.int k i)) (some (.int k i))).run P w= .ok (.slice (if r=l then a else a.map (·.add (l*ie.size))) (r-l) (r-l)) w:=by
 have hb: ∀(k:IntKind)(i:Int)(y:Nat)(c:BoundsCode)(j:Nat),i=(j:Int)->j<=y->(Instr.sliceBound (.int k i) y c).run P w= .ok j w:=by
  intro k i y c j hi hj;subst hi;have:(0:Int)<=j/\(j:Int)<=y:=by omega
  simp only[Instr.sliceBound,asIntOf,q64,q65,q63,this,and_self,if_true,q4Q]
 have hbounds:(Instr.sliceBounds true len cap (lo.map λp=> .int p.1 p.2) (some (.int k i)) (some (.int k i))).run P w= .ok (l,r,r) w:=by
  cases lo with
  |none=>
   have hl0:l=0:=by simp at hl;omega
   subst hl0;simp[Instr.sliceBounds,hb k i cap .slice3Acap r hr hrc,hb k i r .slice3B r hr (q5B _)]
  |some p=>
   obtain⟨k0,i0⟩:=p;simp only at hl;simp[Instr.sliceBounds,hb k i cap .slice3Acap r hr hrc,hb k i r .slice3B r hr (q5B _),hb k0 i0 r .slice3C l hl hlr]
 simp only[Instr.sliceAt,q64,qd h,q63,Instr.slice,hbounds,j7 he,q65]
theorem TH{t ty:TypeId}{x z z':Operand}{k off n cap es:Nat}{r:Nat}{k2:IntKind}{i2:Int}(hs:jx P t=some es)(hr:i2=(r:Int))(hrn:r<=cap):
  OpOk P (.slice t x none (some z) (some z')) ty [(x,.c (.one (.sl k off n cap))),(z,qb k2 i2),(z',qb k2 i2)] [] (.c (.one (.sl k off r r))) []:=
 qk λa w H β hins _ _=>by
  obtain⟨e,ie,h1,h2,rfl⟩:=jo hs;obtain⟨b,c,hβ,hxe⟩:=hins _ q5f;simp only at hβ hxe;have hz:=(hins (z,qb k2 i2) (by simp)).1;have hz':=(hins (z',qb k2 i2) (by simp)).1;simp only at hz hz';have hsl:=Jp (P:=P) h1 h2 (some ⟨b,off,none⟩) n cap none k2 i2 (l:=0) (r:=r) rfl hr (q5X _) (by omega) w;simp only[q5Z,q60]at hsl;refine⟨.slice (some ⟨b,off,none⟩) r r,⟨b,c,hβ,rfl⟩,λ_ _ _ _=>?_⟩;simp only[execOp,hxe,hz,hz',q5Z,q60,q64,hsl,q63,q65];by_cases e:r=0
  .rw[if_pos e];simp
  .rw[if_neg e];simp[ji]
theorem Ru{t ty:TypeId}{x y z z':Operand}{k off n cap es:Nat}{l r:Nat}{k1:IntKind}{i1:Int}{k2:IntKind}{i2:Int}(hs:jx P t=some es)(hl:i1=(l:Int))(hr:i2=(r:Int))(hlr:l<r)(hrn:r<=cap):
  OpOk P (.slice t x (some y) (some z) (some z')) ty [(x,.c (.one (.sl k off n cap))),(y,qb k1 i1),(z,qb k2 i2),(z',qb k2 i2)] [] (.c (.one (.sl k (off+l*es) (r-l) (r-l)))) []:=
 qk λa w H β hins _ _=>by
  obtain⟨e,ie,h1,h2,rfl⟩:=jo hs;obtain⟨b,c,hβ,hxe⟩:=hins _ q5f;simp only at hβ hxe;have hy:=(hins (y,qb k1 i1) (by simp)).1;have hz:=(hins (z,qb k2 i2) (by simp)).1;have hz':=(hins (z',qb k2 i2) (by simp)).1;simp only at hy hz hz';have hsl:=Jp (P:=P) h1 h2 (some ⟨b,off,none⟩) n cap (some (k1,i1)) k2 i2 (l:=l) (r:=r) hl hr (by omega) (by omega) w;simp only[q5Z,q60]at hsl;refine⟨.slice (some ⟨b,off+l*ie.size,none⟩) (r-l) (r-l),⟨b,c,hβ,rfl⟩,λ_ _ _ _=>?_⟩;simp only[execOp,hxe,hy,hz,hz',q5Z,q60,q64,hsl,q63,q65];rw[if_neg (by omega)];simp[ji]
theorem Rr{t ty:TypeId}{x z:Operand}{k n es:Nat}{cs:List Atom}{r:Nat}{k2:IntKind}{i2:Int}(hs:jx P t=some es)(h0:0<es)(hr:i2=(r:Int))(hrn:r<=n)(hn:n*es<=cs.length):
  OpOk P (.slice t x none (some z) none) ty [(x,.c (.one (.gs k n))),(z,qb k2 i2)] [(k,.grow es cs)] (.c (.one (.gs k r))) []:=
 qk λa w H β hins hkin _=>by
  obtain⟨e,ie,h1,h2,rfl⟩:=jo hs;have hx:=hins _ q5f;have hz:=(hins (z,qb k2 i2) (by simp)).1;simp only at hz;rcases hx with⟨hβ,rfl,hxe⟩|⟨b,c,hβ,hxe⟩
  .simp only at hxe
   have hr0:r=0:=by omega
   subst hr0;have hsl:=zf (P:=P) h1 h2 none 0 0 none (some (k2,i2)) (l:=0) (r:=0) rfl hr (q5B _) (q5B _) w;simp only[q5Z,q60]at hsl;refine⟨.slice none 0 0,.inl ⟨hβ,rfl,rfl⟩,λ_ _ _ _=>?_⟩;simp only[execOp,hxe,hz,q5Z,q60,q64,hsl,q63,q65];rfl
  .simp only at hxe
   have hrep:(Blk.grow ie.size cs).rep β w H k:=hkin (k,.grow ie.size cs) (by simp)
   have hcap:n<=c:=by
    rcases hrep with⟨h3,_⟩|⟨b',c',arr,T,h3,_,h4,h5,_⟩
    .rw[hβ]at h3;cases h3
    .rw[hβ]at h3;cases h3
     exact Nat.le_of_mul_le_mul_right (by omega) h0
   have hsl:=zf (P:=P) h1 h2 (some ⟨b,0,none⟩) n c none (some (k2,i2)) (l:=0) (r:=r) rfl hr (q5X _) (by omega) w;simp only[q5Z,q60]at hsl;refine⟨.slice (some ⟨b,0,none⟩) r c,.inr ⟨b,c,hβ,rfl⟩,λ_ _ _ _=>?_⟩;simp only[execOp,hxe,hz,q5Z,q60,q64,hsl,q63,q65];by_cases e:c=0
   .rw[if_pos e];simp
   .rw[if_neg e];simp[ji]
theorem q2v{k n es:Nat}{cells cells':List CAtom}{g:Option Nat}(he:g=some es)(h0:0<es)(hl:n*es<=cells.length)(hc:cells.take (n*es)=cells'):RelA k cells g (.gs k n) (.abs (flP cells' n)):=by
 intro β H H' v hle hf hs;rcases hf with⟨h1,hnil⟩|⟨b2,c2,arr,h1,h2,h3,h4⟩
 .rcases hs with⟨_,rfl,rfl⟩|⟨b,c,hβ,_⟩
  .exact⟨none,0,rfl,q5B _,.inl (by rw[<-hc,hnil];simp)⟩
  .rw[hβ]at h1;cases h1
 .rcases hs with⟨hβ,_⟩|⟨b,c,hβ,rfl⟩
  .rw[hβ]at h1;cases h1
  .rw[hβ]at h1;cases h1
   have h5:=h4 es he;refine⟨_,_,rfl,Nat.le_of_mul_le_mul_right (q5C hl h5) h0,.inr ⟨_,0,arr,rfl,h2,?_⟩⟩;have e1:cells'.length=n*es:=by rw[<-hc];simp;omega
   have:=h3.take (n*es);rw[q5q,q5G (by omega),hc]at this;rw[e1];simpa using this
def EB(P:Program)(t:TypeId):Bool:=match P.underlying t with|some .string=>true|_=>false
theorem RF{t:TypeId}(h:EB P t=true):P.underlying t=some .string:=by
 unfold EB at h;split at h
 .assumption
 .cases h
theorem Gu{t ty:TypeId}{x y:Operand}{s:ByteArray}{kk:IntKind}{i:Int}{j:Nat}(ht:EB P t=true)(hi:i=(j:Int))(hj:j<256)
  (hall:(List.range 256).all (λj=>match s[j]? with|some b=>b.toNat==bl j|none=>false)=true):
  OpOk P (.index t x y) ty [(x,.c (.one (.val (.string s)))),(y,qb kk i)] [] (qb .u8 ((bl j:Nat):Int)) []:=
 qk λa w H β hins _ _=>by
  have hx:=(hins (x,.c (.one (.val (.string s)))) (by simp)).1;have hy:=(hins (y,qb kk i) (by simp)).1;simp only at hx hy;refine⟨.int .u8 ((bl j:Nat):Int),⟨rfl,rfl⟩,λ_ _ _ _=>?_⟩;have h1:=List.all_eq_true.1 hall j (List.mem_range.2 hj);subst hi;split at h1
  .rename_i b hb
   have hb':b.toNat=bl j:=by simpa using h1
   simp only[execOp,hx,hy,Instr.index,asIntOf,q64,q65,q63,qd (RF ht),q4P,if_true,q4Q,hb];simp only[q65,q63,hb']
  .cases h1
theorem q0w{f:FuncId}{ps:List AV}{d n es:Nat}{cells:List CAtom}{cs:List Atom}(hcs:cs=cells.map CAtom.up)(h0:0<es)(hn:n*es=cells.length)
  (h:SigG P f ps [] (.c (.one (.gs d n))) [(d,some (.grow es cs))]):SigG P f ps [] (.c (.one (.abs (flP cells n)))) []:=by
 subst hcs;refine⟨h.1,λvs w H β hargs hkin hdis hon=>Calls.mono (h.2 vs w H β hargs (λp hp=>by simp at hp) (λp hp=>by simp at hp) hon) ?_⟩
 rintro e w' ⟨v,H',β',he,hs,hv,hb⟩
 have hrep:=hb d (.grow es (cells.map CAtom.up)) q5f;have hk:kwOf [] [(d,some (Blk.grow es (cells.map CAtom.up)))]=[]:=rfl;have hk2:qu [] [(d,some (Blk.grow es (cells.map CAtom.up)))]=[d]:=rfl;have hk3:jk [(d,some (Blk.grow es (cells.map CAtom.up)))]=[]:=rfl;rw[hk,hk2,hk3]at hs;rcases hrep with⟨h1,h2⟩|⟨b,c,arr,T,h1,h2,h3,h4,h5⟩
 .rcases hv with⟨_,rfl,rfl⟩|⟨b,c,h3,_⟩
  .refine⟨_,H',β,he,⟨hs.os,hs.tape,hs.output,hs.size,λb hb' _=>hs.keep b hb' (by simp),hs.hle,hs.hnew,hs.hon,λ_ _=>rfl,by simp[qu],by simp[qu]⟩,?_,by simp⟩
   exact⟨none,0,rfl,q5B _,.inl (by simpa using h2)⟩
  .rw[h1]at h3;cases h3
 .rcases hv with⟨h6,_⟩|⟨b',c',h6,rfl⟩
  .rw[h1]at h6;cases h6
  .rw[h1]at h6;cases h6
   obtain⟨f1,f2⟩:=hs.fresh d (by simp) b c h1;have hle:=Heap.set_le arr f1
   have hb0:w.heap.size<=b:=by
    rcases f2 with f2|⟨k0,hk0,_⟩
    .exact f2
    .simp at hk0
   rw[q58]at h4 h5;refine⟨_,H'.set b arr,β,he,⟨hs.os,hs.tape,hs.output,hs.size,λb hb' _=>hs.keep b hb' (by simp),hs.hle.trans hle,?_,?_,λ_ _=>rfl,by simp[qu],by simp[qu]⟩,?_,by simp⟩
   .intro b' hb'
    by_cases e:b'=b
    .exact .inr (by omega)
    .simp only[Heap.set,if_neg e]at hb';exact hs.hnew b' hb'
   .intro b' cs hb'
    by_cases e:b'=b
    .subst e
     rw[Heap.set_at]at hb';cases hb'
     exact⟨T,(0,0),h2⟩
    .simp only[Heap.set,if_neg e]at hb';exact hs.hon b' cs hb'
   .refine⟨_,c,rfl,?_,.inr ⟨b,0,arr,rfl,Heap.set_at _ _ _,?_⟩⟩
    .rw[<-hn,h3]at h4;exact Nat.le_of_mul_le_mul_right h4 h0
    .have:=(CSats.of_up h5).mono hle
     simpa using this
end
end
section
section
variable {P:Program}
theorem Rs{t ty:TypeId}{x y:Operand}{k n es:Nat}{cs:List Atom}{l:Nat}{k1:IntKind}{i1:Int}(hs:jx P t=some es)(h0:0<es)(hl:i1=(l:Int))(hln:l<=n)(hn:n*es<=cs.length):
  OpOk P (.slice t x (some y) none none) ty [(x,.c (.one (.gs k n))),(y,qb k1 i1)] [(k,.grow es cs)] (.c (.one (.so k (l*es) l (n-l)))) []:=
 qk λa w H β hins hkin _=>by
  obtain⟨e,ie,h1,h2,rfl⟩:=jo hs;have hx:=hins _ q5f;have hy:=(hins (y,qb k1 i1) (by simp)).1;simp only at hy;rcases hx with⟨hβ,hn0,hxe⟩|⟨b,c,hβ,hxe⟩
  .simp only at hxe
   have hsl:=zf (P:=P) h1 h2 none 0 0 (some (k1,i1)) none (l:=l) (r:=0) hl rfl (by omega) (q5B _) w;simp only[q5Z,q60]at hsl;have e0:0-l=0:=by omega
   rw[e0]at hsl;refine⟨.slice none 0 0,.inl ⟨by omega,none,0,rfl⟩,λ_ _ _ _=>?_⟩
   .simp only[execOp,hxe,hy,q5Z,q60,q64,hsl,q63,q65]
    simp
  .simp only at hxe
   have hrep:(Blk.grow ie.size cs).rep β w H k:=hkin (k,.grow ie.size cs) (by simp)
   have hcap:n<=c:=by
    rcases hrep with⟨h3,_⟩|⟨b',c',arr,T,h3,_,h4,h5,_⟩
    .rw[hβ]at h3;cases h3
    .rw[hβ]at h3;cases h3
     exact Nat.le_of_mul_le_mul_right (by omega) h0
   have hsl:=zf (P:=P) h1 h2 (some ⟨b,0,none⟩) n c (some (k1,i1)) none (l:=l) (r:=n) hl rfl (by omega) hcap w;simp only[q5Z,q60]at hsl;by_cases hlt:l<n
   .refine⟨.slice (some ⟨b,l*ie.size,none⟩) (n-l) (c-l),.inr ⟨b,c,hβ,rfl⟩,λ_ _ _ _=>?_⟩
    simp only[execOp,hxe,hy,q5Z,q60,q64,hsl,q63,q65];rw[if_neg (by omega)];simp[ji]
   .have e0:n-l=0:=by omega
    refine⟨.slice (if c=l then some (⟨b,0,none⟩:Addr)else Option.map (λa:Addr=>a.add (l*ie.size)) (some ⟨b,0,none⟩)) 0 (c-l),.inl ⟨e0,_,_,rfl⟩,λ_ _ _ _=>?_⟩;simp only[execOp,hxe,hy,q5Z,q60,q64,hsl,q63,q65];rw[e0]
theorem q1o{t ty:TypeId}{x y:Operand}{k off lo n es:Nat}{kk:IntKind}{i:Int}{j:Nat}{o:Nat}(h:jx P t=some es)(hi:i=(j:Int))(hj:j<n)(ho:o=off+j*es):
  OpOk P (.indexAddr t x y) ty [(x,.c (.one (.so k off lo n))),(y,qb kk i)] [] (.c (.one (.loc k o))) []:=
 qk λa w H β hins _ _=>by
  obtain⟨e,ie,h1,h2,rfl⟩:=jo h;have hx:=hins _ q5f;rcases hx with⟨hz,_⟩|⟨b,c,hβ,hx⟩
  .omega
  have hy:=(hins (y,qb kk i) (by simp)).1;simp only at hβ hx hy;subst ho;have e:j=i.toNat:=by omega
  subst e;refine⟨_,⟨b,c,hβ,rfl⟩,λ_ _ _ _=>?_⟩;simp only[execOp,hx,hy,q64,vW h1 h2 (show 0<=i by omega) (show i<n by omega),q63,q65]
theorem q1p{t ty:TypeId}{x:Operand}{k off lo n:Nat}(h:jB P t=true):
  OpOk P (.call {callee:= .builtin .len,args:= #[x],argTypes:= #[t]}) ty [(x,.c (.one (.so k off lo n)))] [] (qb .i64 n) []:=by
 unfold jB at h;split at h
 .rename_i e he;exact A8 he (λ_ _ _ h=>by rcases h with⟨rfl,p,c,h⟩|⟨_,_,_,h⟩<;>exact⟨_,_,h⟩)
 .cases h
end
end
inductive Ty where
 |nat (k:IntKind)|int (k:IntKind)|bool|str|mag|rat
 |sl (t:Ty)|pr (a b:Ty)|st (t:Ty)|fn (f:FuncId)
 |pt (t:Ty)|cl (f:FuncId) (t:Ty)
inductive Bd where
 |u|n (b:Nat)|s (b:Nat) (e:Bd)|p (a b:Bd)
@[reducible] def Ty.den:Ty->Type
 | .nat _=>Nat| .int _=>Int| .bool=>Bool| .str=>ByteArray| .mag=>Nat| .rat=>Rat
 | .sl t=>List t.den| .pr a b=>a.den×b.den| .st t=>t.den| .fn _=>Unit| .pt t=>t.den| .cl _ t=>t.den
def Ty.dft:(t:Ty)->t.den
 | .nat _=>(0:Nat)| .int _=>(0:Int)| .bool=>false| .str=>ByteArray.empty| .mag=>(0:Nat)| .rat=>(0:Rat)
 | .sl _=>[]| .pr a b=>(a.dft,b.dft)| .st t=>t.dft| .fn _=>()| .pt t=>t.dft| .cl _ t=>t.dft
def Ty.w:Ty->Nat
 | .rat=>3| .pr a b=>a.w+b.w| .st t=>t.w|_=>1
def Ty.agg:Ty->Bool
 | .rat| .pr _ _| .st _=>true
 |_=>false
def kbeq(a b:IntKind):Bool:=decide (a=b)
theorem vy{a b:IntKind}(h:kbeq a b=true):a=b:=of_decide_eq_true h
def Ty.beq:Ty->Ty->Bool
 | .nat k,.nat k'=>kbeq k k'
 | .int k,.int k'=>kbeq k k'
 | .bool,.bool=>true
 | .str,.str=>true
 | .mag,.mag=>true
 | .rat,.rat=>true
 | .sl a,.sl b=>a.beq b
 | .pr a b,.pr c d=>a.beq c&&b.beq d
 | .st a,.st b=>a.beq b
 | .fn f,.fn g=>Nat.beq f g
 | .pt a,.pt b=>a.beq b
 | .cl f a,.cl g b=>Nat.beq f g&&a.beq b
 |_,_=>false
theorem Ty.beq_eq: ∀{a b:Ty},a.beq b=true->a=b
 | .nat _,b,h=>by cases b<;>simp only[Ty.beq,q4M]at h;rw[vy h]
 | .int _,b,h=>by cases b<;>simp only[Ty.beq,q4M]at h;rw[vy h]
 | .bool,b,h=>by cases b<;>simp only[Ty.beq,q4M]at h;rfl
 | .str,b,h=>by cases b<;>simp only[Ty.beq,q4M]at h;rfl
 | .mag,b,h=>by cases b<;>simp only[Ty.beq,q4M]at h;rfl
 | .rat,b,h=>by cases b<;>simp only[Ty.beq,q4M]at h;rfl
 | .sl a,b,h=>by cases b<;>simp only[Ty.beq,q4M]at h;rw[Ty.beq_eq h]
 | .pr a c,b,h=>by
  cases b<;>simp only[Ty.beq,q4M]at h
  rw[q4L]at h;rw[Ty.beq_eq h.1,Ty.beq_eq h.2]
 | .st a,b,h=>by cases b<;>simp only[Ty.beq,q4M]at h;rw[Ty.beq_eq h]
 | .fn f,b,h=>by cases b<;>simp only[Ty.beq,q4M]at h;rw[q5w h]
 | .pt a,b,h=>by cases b<;>simp only[Ty.beq,q4M]at h;rw[Ty.beq_eq h]
 | .cl f a,b,h=>by
  cases b<;>simp only[Ty.beq,q4M]at h
  rw[q4L]at h;rw[q5w h.1,Ty.beq_eq h.2]
def gt(t:Ty)(l:List t.den)(i:Nat):t.den:=l.getD i t.dft
def qR(x b:Nat):Prop:=x<2^b
def le2(x b:Nat):Prop:=x<=2^b
def Bnd:(t:Ty)->Bd->t.den->Prop
 | .nat _,.n b,x=>x<=b
 | .int _,.n b,x=>Int.natAbs x<=b
 | .bool,_,_=>True
 | .str,.n b,x=>ByteArray.size x<=b
 | .mag,.n b,x=>qR x b
 | .rat,.n b,x=>qR (Int.natAbs (Rat.num x)) b/\le2 (Rat.den x) b
 | .sl t,.s n e,l=>List.length l<=n/\ ∀x∈l,Bnd t e x
 | .pr a b,.p c d,x=>Bnd a c x.1/\Bnd b d x.2
 | .st t,e,x=>Bnd t e x
 | .fn _,_,_=>True
 | .pt t,e,x=>Bnd t e x
 | .cl _ t,e,x=>Bnd t e x
 |_,_,_=>False
def Bd.le:Bd->Bd->Bool
 | .u,.u=>true
 | .n a,.n b=>Nat.ble a b
 | .s a e,.s b f=>Nat.ble a b&&e.le f
 | .p a b,.p c d=>a.le c&&b.le d
 |_,_=>false
theorem qr{x a b:Nat}(h:a<=b)(k:qR x a):qR x b:=q5E k (q5S (by decide) h)
theorem HD{x a b:Nat}(h:a<=b)(k:le2 x a):le2 x b:=q5C k (q5S (by decide) h)
theorem Bnd.mono: ∀{t:Ty}{a b:Bd}{x:t.den},a.le b=true->Bnd t a x->Bnd t b x
 | .nat _,.n a,.n b,x,h,k=>q5C k (q5y h)
 | .int _,.n a,.n b,x,h,k=>q5C k (q5y h)
 | .bool,_,_,_,_,_=>trivial
 | .str,.n a,.n b,x,h,k=>q5C k (q5y h)
 | .mag,.n a,.n b,x,h,k=>qr (q5y h) k
 | .rat,.n a,.n b,x,h,k=>⟨qr (q5y h) k.1,HD (q5y h) k.2⟩
 | .sl t,.s a e,.s b f,l,h,k=>by
  simp only[Bd.le,q4L]at h;exact⟨q5C k.1 (q5y h.1),λx hx=>Bnd.mono h.2 (k.2 x hx)⟩
 | .pr a b,.p c d,.p e f,x,h,k=>by
  simp only[Bd.le,q4L]at h;exact⟨Bnd.mono h.1 k.1,Bnd.mono h.2 k.2⟩
 | .st t,a,b,x,h,k=>Bnd.mono (t:=t) h k
 | .fn _,_,_,_,_,_=>trivial
 | .pt t,a,b,x,h,k=>Bnd.mono (t:=t) h k
 | .cl _ t,a,b,x,h,k=>Bnd.mono (t:=t) h k
 | .nat _,.n a,.u,x,h,k| .nat _,.n a,.s _ _,x,h,k| .nat _,.n a,.p _ _,x,h,k=>by simp[Bd.le]at h
 | .int _,.n a,.u,x,h,k| .int _,.n a,.s _ _,x,h,k| .int _,.n a,.p _ _,x,h,k=>by simp[Bd.le]at h
 | .str,.n a,.u,x,h,k| .str,.n a,.s _ _,x,h,k| .str,.n a,.p _ _,x,h,k=>by simp[Bd.le]at h
 | .mag,.n a,.u,x,h,k| .mag,.n a,.s _ _,x,h,k| .mag,.n a,.p _ _,x,h,k=>by simp[Bd.le]at h
 | .rat,.n a,.u,x,h,k| .rat,.n a,.s _ _,x,h,k| .rat,.n a,.p _ _,x,h,k=>by simp[Bd.le]at h
 | .sl t,.s a e,.u,x,h,k| .sl t,.s a e,.n _,x,h,k| .sl t,.s a e,.p _ _,x,h,k=>by simp[Bd.le]at h
 | .pr _ _,.p a e,.u,x,h,k| .pr _ _,.p a e,.n _,x,h,k| .pr _ _,.p a e,.s _ _,x,h,k=>by simp[Bd.le]at h
 | .nat _,.u,_,_,_,k| .nat _,.s _ _,_,_,_,k| .nat _,.p _ _,_,_,_,k=>k.elim
 | .int _,.u,_,_,_,k| .int _,.s _ _,_,_,_,k| .int _,.p _ _,_,_,_,k=>k.elim
 | .str,.u,_,_,_,k| .str,.s _ _,_,_,_,k| .str,.p _ _,_,_,_,k=>k.elim
 | .mag,.u,_,_,_,k| .mag,.s _ _,_,_,_,k| .mag,.p _ _,_,_,_,k=>k.elim
 | .rat,.u,_,_,_,k| .rat,.s _ _,_,_,_,k| .rat,.p _ _,_,_,_,k=>k.elim
 | .sl _,.u,_,_,_,k| .sl _,.n _,_,_,_,k| .sl _,.p _ _,_,_,_,k=>k.elim
 | .pr _ _,.u,_,_,_,k| .pr _ _,.n _,_,_,_,k| .pr _ _,.s _ _,_,_,_,k=>k.elim
def ptV(H:Heap)(cells:List CAtom)(p:Value):Prop:= ∃b off arr,p= .pointer (some ⟨b,off,none⟩)/\H b=some arr/\CSats H cells ((arr.toList.drop off).take cells.length)
def ptP(cells:List CAtom):Pred where
 p H v:=ptV H cells v
 mono:=by rintro H H' v h ⟨b,off,arr,h1,h2,h3⟩;exact⟨b,off,arr,h1,h _ _ h2,CSats.mono h h3⟩
 one:=by rintro H v ⟨b,off,arr,rfl,_⟩;rfl
def clP(f:FuncId)(cells:List CAtom):Pred where
 p H v:= ∃q,v= .func (.func f) #[] #[q]/\ptV H cells q
 mono:=by rintro H H' v h ⟨q,h0,hq⟩;exact⟨q,h0,(ptP cells).mono h hq⟩
 one:=by rintro H v ⟨q,rfl,_⟩;rfl
def cellsC:(t:Ty)->t.den->List CAtom
 | .nat k,(x:Nat)=>[.val (.int k (x:Int))]
 | .int k,x=>[.val (.int k x)]
 | .bool,x=>[.val (.bool x)]
 | .str,x=>[.val (.string x)]
 | .mag,x=>[.abs (natP x)]
 | .rat,x=>[crc0 x,crc1 x,crc2 x]
 | .sl t,(l:List t.den)=>[.abs (flP (l.flatMap (cellsC t)) l.length)]
 | .pr a b,x=>cellsC a x.1++cellsC b x.2
 | .st t,x=>cellsC t x
 | .fn f,_=>[.val (.func (.func f) #[] #[])]
 | .pt t,x=>[.abs (ptP (cellsC t x))]
 | .cl f t,x=>[.abs (clP f (cellsC t x))]
def ql(t:Ty)(x:t.den):List Atom:=(cellsC t x).map CAtom.up
theorem jF: ∀(t:Ty)(x:t.den),(cellsC t x).length=t.w
 | .nat _,_| .int _,_| .bool,_| .str,_| .mag,_| .rat,_| .sl _,_| .fn _,_| .pt _,_| .cl _ _,_=>rfl
 | .pr a b,x=>by simp only[cellsC,q55,jF a,jF b,Ty.w]
 | .st t,x=>jF t x
theorem vI(t:Ty)(x:t.den):(ql t x).length=t.w:=by simp[ql,jF]
theorem Kt(k:Nat): ∀l:List CAtom,jC k (l.map CAtom.up)=false
 |[]=>rfl
 |a::l=>by cases a<;>simp[jC,Atom.men,CAtom.up,Kt k l]
theorem Ei(k:Nat)(t:Ty)(x:t.den):jC k (ql t x)=false:=Kt k _
def jc(t:Ty)(l:List t.den):List CAtom:=l.flatMap (cellsC t)
def qI(t:Ty)(l:List t.den):List Atom:=l.flatMap (ql t)
theorem jJ(t:Ty): ∀l:List t.den,(jc t l).length=l.length*t.w
 |[]=>by simp[jc]
 |x::l=>by
  have:=jJ t l;unfold jc at this⊢;simp only[q4W,q55,jF,this,q56,q5V];omega
theorem vC(t:Ty)(l:List t.den):qI t l=(jc t l).map CAtom.up:=by
 unfold qI jc ql;rw[List.map_flatMap]
theorem zk(t:Ty)(l:List t.den):(qI t l).length=l.length*t.w:=by rw[vC];simp[jJ]
theorem JF(t:Ty): ∀(l:List t.den)(i:Nat),i<l.length->((jc t l).drop (i*t.w)).take t.w=cellsC t (gt t l i)
 |[],i,h=>by simp at h
 |x::l,0,_=>by
  have e:jc t (x::l)=cellsC t x++jc t l:=by simp[jc]
  rw[q5Y,q4U,e,q5m (by rw[jF];exact q5B _),q5o (by rw[jF];exact q5B _)];rfl
 |x::l,i+1,h=>by
  have e:jc t (x::l)=cellsC t x++jc t l:=by simp[jc]
  rw[e,List.drop_append,q4T (by rw[jF,q5V];omega),q5k,jF,show(i+1)*t.w-t.w=i*t.w by rw[q5V];omega];rw[JF t l i (by simpa using h)];rfl
theorem CO(t:Ty): ∀(l:List t.den)(i:Nat),(jc t l).drop (i*t.w)=jc t (l.drop i)
 |[],i=>by simp[jc]
 |x::l,0=>by simp
 |x::l,i+1=>by
  have e:jc t (x::l)=cellsC t x++jc t l:=by simp[jc]
  rw[e,List.drop_append,q4T (by rw[jF,q5V];omega),q5k,jF,show(i+1)*t.w-t.w=i*t.w by rw[q5V];omega];rw[CO t l i];rfl
theorem Ax(t:Ty): ∀(l:List t.den)(i:Nat),(jc t l).take (i*t.w)=jc t (l.take i)
 |[],i=>by simp[jc]
 |x::l,0=>by simp[jc]
 |x::l,i+1=>by
  have e:jc t (x::l)=cellsC t x++jc t l:=by simp[jc]
  rw[e,List.take_append,q5o (by rw[jF,q5V];omega),jF,show(i+1)*t.w-t.w=i*t.w by rw[q5V];omega];rw[Ax t l i];simp[jc]
theorem Pl(t:Ty)(l:List t.den)(i:Nat)(h:i<l.length):((qI t l).drop (i*t.w)).take t.w=ql t (gt t l i):=by
 rw[vC,<-List.map_drop,<-List.map_take,JF t l i h];rfl
theorem Fb(t:Ty)(l:List t.den)(i:Nat):(qI t l).drop (i*t.w)=qI t (l.drop i):=by
 rw[vC,<-List.map_drop,CO,<-vC]
theorem Fc(t:Ty)(l:List t.den)(i:Nat):(qI t l).take (i*t.w)=qI t (l.take i):=by
 rw[vC,<-List.map_take,Ax,<-vC]
theorem Ea(t:Ty)(l l':List t.den):qI t (l++l')=qI t l++qI t l':=by simp[qI]
theorem W3(t:Ty)(l:List t.den)(i:Nat)(x:t.den)(h:i<l.length):spl (qI t l) (i*t.w) (ql t x)=qI t (l.set i x):=by
 have e:l.set i x=l.take i++x::l.drop (i+1):=by
  rw[List.set_eq_take_append_cons_drop,if_pos h]
 unfold spl;rw[e,vI,show i*t.w+t.w=(i+1)*t.w by rw[q5V],Fc,Fb,Ea];simp[qI]
theorem wG(k:Nat)(t:Ty)(l:List t.den):jC k (qI t l)=false:=by rw[vC];exact Kt k _
theorem Jt(ls:List Nat):Mk ls=jc (.nat .u32) ls:=by
 induction ls with
 |nil=>rfl
 |cons a l ih=>rw[show jc (.nat .u32) (a::l)=cellsC (.nat .u32) a++jc (.nat .u32) l from rfl,<-ih];rfl
theorem FN(n:Nat):natP n=flP (jc (.nat .u32) (limbs n)) (limbs n).length:=by rw[<-Jt]
theorem Bz(n:Nat):ql .mag n=ql (.sl (.nat .u32)) (limbs n):=by
 show[Atom.abs (natP n)]=[Atom.abs (flP (jc (.nat .u32) (limbs n)) (limbs n).length)];rw[FN]
theorem KJ(d:Nat):[Atom.abs (denP d)]=ql (.sl (.nat .u32)) (denL d):=by
 show[Atom.abs (flP (Mk (denL d)) _)]=[Atom.abs (flP (jc (.nat .u32) (denL d)) _)];rw[Jt]
def bqP(C:Prop):Pred where
 p _ v:= ∃b:Bool,v= .bool b/\(b=true->C)
 mono:=by rintro H H' v _ h;exact h
 one:=by rintro H v ⟨b,rfl,_⟩;rfl
def unP:Pred where
 p _ v:=v.oneC=true
 mono:=by rintro H H' v _ h;exact h
 one:=by rintro H v h;exact h
inductive WA where
 |dt (t:Ty) (b:Bd) (x:t.den)
 |kn (kd:IntKind) (z:Int)
 |vl (u:Value)
 |pp (q:Prop) (i:Decidable q)
 |loc (k off:Nat)
 |el (k i fo w:Nat)
 |ip (t:Ty) (b:Bd) (x:t.den) (fo:Nat)
 |ls (k:Nat) (lo:Option Nat) (n cap w nb:Nat)
 |gs (k n w nb:Nat)
 |so (k lo n w nb:Nat)
 |nn (t:Ty) (b:Bd) (l:List t.den)
 |bq (C:Prop)
 |un
 |mp (k:Nat)
 |fc (t:Ty) (b:Bd) (l:List t.den)
def WA.exp:WA->List Atom
 | .dt t _ x=>ql t x
 | .kn kd z=>[.val (.int kd z)]
 | .vl u=>[.val u]
 | .pp q i=>[.val (.bool (@decide q i))]
 | .loc k off=>[.loc k off]
 | .el k i fo w=>[.loc k (i*w+fo)]
 | .ip t _ x fo=>[.ptr ((cellsC t x).drop fo)]
 | .ls k lo n cap w _=>[.sl k (lo.getD 0*w) n cap]
 | .gs k n _ _=>[.gs k n]
 | .so k lo n w _=>[.so k (lo*w) lo n]
 | .nn t _ l=>[.abs (nnP (jc t l) l.length)]
 | .bq C=>[.abs (bqP C)]
 | .un=>[.abs unP]
 | .mp k=>[.mp k]
 | .fc t _ l=>[.abs (fcP (jc t l) l.length)]
def WA.wd:WA->Nat
 | .dt t _ _=>t.w
 |_=>1
theorem WA.exp_len(a:WA):a.exp.length=a.wd:=by cases a<;>first|rfl|exact vI _ _
def WA.ok:WA->Prop
 | .dt t b x=>Bnd t b x
 | .vl u=>u.oneC=true
 | .ip t b x _=>Bnd t b x
 | .ls _ _ n cap _ nb=>n<=cap/\n<=nb
 | .gs _ n _ nb=>n<=nb
 | .so _ _ n _ nb=>n<=nb
 | .nn t b l=>Bnd (.sl t) b l
 | .fc t b l=>Bnd (.sl t) b l
 |_=>True
def WA.ids:WA->List Nat
 | .loc k _| .el k _ _ _| .ls k _ _ _ _ _| .gs k _ _ _| .so k _ _ _ _| .mp k=>[k]
 |_=>[]
theorem WA.men_ids{a:WA}{k:Nat}(h:jC k a.exp=true):k∈a.ids:=by
 cases a with
 |dt t b x=>rw[show jC k (WA.exp (.dt t b x))=false from Ei k t x]at h;cases h
 |_=>simp_all [WA.exp,jC,Atom.men,WA.ids]
def WAs.exp(l:List WA):List Atom:=l.flatMap WA.exp
def WAs.wd:List WA->Nat
 |[]=>0
 |a::l=>a.wd+WAs.wd l
theorem WAs.exp_len: ∀l:List WA,(WAs.exp l).length=WAs.wd l
 |[]=>rfl
 |a::l=>by
  have:=WAs.exp_len l;unfold WAs.exp at this⊢;simp only[q4W,q55,WA.exp_len,this,WAs.wd]
def WAs.ids(l:List WA):List Nat:=l.flatMap WA.ids
theorem Dt{k:Nat}: ∀{l l':List Atom},jC k (l++l')=(jC k l||jC k l')
 |[],_=>rfl
 |a::l,l'=>by simp only[List.cons_append,jC,Dt,Bool.or_assoc]
theorem WAs.men_ids{k:Nat}: ∀{l:List WA},jC k (WAs.exp l)=true->k∈WAs.ids l
 |[],h=>by simp[WAs.exp,jC]at h
 |a::l,h=>by
  unfold WAs.exp at h;rw[q4W,Dt,Bool.or_eq_true]at h;unfold WAs.ids;rw[q4W,q5c];exact h.imp WA.men_ids (λh=>WAs.men_ids h)
def WAs.ok(l:List WA):Prop:= ∀a∈l,a.ok
inductive WC where
 |one (a:WA)
 |agg (l:List WA)
inductive WV where
 |c (x:WC)
 |tup (l:List WC)
def WC.cells:WC->List WA
 | .one a=>[a]
 | .agg l=>l
def WC.exp:WC->Cmp
 | .one a=> .one (a.exp.headD (.val (.bool false)))
 | .agg l=> .agg (WAs.exp l)
def WV.exp:WV->AV
 | .c x=> .c x.exp
 | .tup l=> .tup (l.map WC.exp)
def WC.ok:WC->Prop
 | .one a=>a.ok/\a.wd=1
 | .agg l=>WAs.ok l
def WV.ok:WV->Prop
 | .c x=>x.ok
 | .tup l=> ∀x∈l,x.ok
def WC.ids:WC->List Nat
 | .one a=>a.ids
 | .agg l=>WAs.ids l
def WV.ids:WV->List Nat
 | .c x=>x.ids
 | .tup l=>l.flatMap WC.ids
theorem WA.exp_one{a:WA}(h:a.wd=1):a.exp=[a.exp.headD (.val (.bool false))]:=by
 have:=a.exp_len;rw[h]at this
 match he:a.exp,this with
 |[x],_=>rfl
theorem WC.exp_cells{x:WC}(h:x.ok):x.exp.cells=WAs.exp x.cells:=by
 cases x with
 |one a=>show[_]=WAs.exp [a];simp only[WAs.exp,q4W,List.flatMap_nil,List.append_nil];exact(WA.exp_one h.2).symm
 |agg l=>rfl
theorem WC.men_ids{x:WC}{k:Nat}(h:x.exp.men k=true):k∈x.ids:=by
 cases x with
 |one a=>
  simp only[WC.exp,Cmp.men]at h;refine WA.men_ids (a:=a) ?_
  match he:a.exp,h with
  |[],h=>simp[Atom.men]at h
  |y::r,h=>simp only[List.headD_cons]at h;simp[jC,h]
 |agg l=>exact WAs.men_ids h
theorem WV.men_ids{x:WV}{k:Nat}(h:x.exp.men k=true):k∈x.ids:=by
 cases x with
 |c a=>exact WC.men_ids h
 |tup l=>
  simp only[WV.exp,AV.men]at h;simp only[WV.ids,List.mem_flatMap]
  induction l with
  |nil=>simp[menC]at h
  |cons a l ih=>
   simp only[q5b,menC,Bool.or_eq_true]at h;rcases h with h|h
   .exact⟨a,q5f,WC.men_ids h⟩
   .obtain⟨b,hb,hk⟩:=ih h;exact⟨b,q5e _ hb,hk⟩
inductive WB where
 |rig (l:List WA)
 |arr (t:Ty) (b:Bd) (l:List t.den)
 |gro (t:Ty) (b:Bd) (l:List t.den)
 |mp (m:Nat) (L:List KV)
def WB.exp:WB->Blk
 | .rig l=> .rigid (WAs.exp l)
 | .arr t _ l=> .rigid (qI t l)
 | .gro t _ l=> .grow t.w (qI t l)
 | .mp _ L=> .mp (mpL L)
def WB.ok:WB->Prop
 | .rig l=>WAs.ok l
 | .arr t b l=> ∀x∈l,Bnd t b x
 | .gro t b l=> ∀x∈l,Bnd t b x
 | .mp m L=>MOk m L
def WB.ids:WB->List Nat
 | .rig l=>WAs.ids l
 |_=>[]
theorem WB.men_ids{x:WB}{k:Nat}(h:x.exp.men k=true):k∈x.ids:=by
 cases x with
 |rig l=>exact WAs.men_ids h
 |arr t b l=>simp only[WB.exp,Blk.men,wG]at h;cases h
 |gro t b l=>simp only[WB.exp,Blk.men,wG]at h;cases h
 |mp m L=>cases h
def Bd.nb:Bd->Nat
 |Bd.n b=>b
 |_=>0
def Bd.l:Bd->Bd
 | .p a _=>a
 |_=> .u
def Bd.r:Bd->Bd
 | .p _ b=>b
 |_=> .u
def Bd.e:Bd->Bd
 |Bd.s _ f=>f
 |_=> .u
def Bd.len:Bd->Nat
 |Bd.s m _=>m
 |_=>0
def IP(b:Nat):Bd:= .s (b/32+1) (.n 4294967295)
theorem qE{n b:Nat}(h:n<=2^b):(limbs n).length<=b/32+1:=by
 refine S2 (q5D h ?_);rw[show(4294967296:Nat)=2^32 from rfl,<-Nat.pow_mul];exact Nat.pow_lt_pow_right (by decide) (by omega)
theorem Bnd.limbs{n b:Nat}(h:qR n b):Bnd (.sl (.nat .u32)) (IP b) (limbs n):=
 ⟨qE (q5z h),λu hu=>q5A (vr n u hu)⟩
theorem Bnd.denL{d b:Nat}(h:le2 d b):Bnd (.sl (.nat .u32)) (IP b) (denL d):=by
 unfold Sx.denL;split
 .exact⟨q5X _,λu hu=>by simp at hu⟩
 .exact⟨qE h,λu hu=>q5A (vr d u hu)⟩
theorem Bnd.pr{a b:Ty}{c:Bd}{x:(Ty.pr a b).den}(h:Bnd (.pr a b) c x):Bnd a c.l x.1/\Bnd b c.r x.2:=by
 cases c with
 |p e f=>exact h
 |_=>exact h.elim
theorem Bnd.rat{c:Bd}{x:Rat}(h:Bnd .rat c x):qR x.num.natAbs c.nb/\le2 x.den c.nb:=by
 cases c with
 |n b=>exact h
 |_=>exact h.elim
theorem Bnd.mag{c:Bd}{x:Nat}(h:Bnd .mag c x):qR x c.nb:=by
 cases c with
 |n b=>exact h
 |_=>exact h.elim
theorem Bnd.sl{t:Ty}{c:Bd}{l:List t.den}(h:Bnd (.sl t) c l):l.length<=c.len/\ ∀x∈l,Bnd t c.e x:=by
 cases c with
 |s m f=>exact h
 |_=>exact h.elim
theorem Bnd.nat{k:IntKind}{c:Bd}{x:Nat}(h:Bnd (.nat k) c x):x<=c.nb:=by
 cases c with
 |n b=>exact h
 |_=>exact h.elim
theorem Bnd.int{k:IntKind}{c:Bd}{x:Int}(h:Bnd (.int k) c x):x.natAbs<=c.nb:=by
 cases c with
 |n b=>exact h
 |_=>exact h.elim
theorem Bnd.gt{t:Ty}{e:Bd}{l:List t.den}(h: ∀x∈l,Bnd t e x){i:Nat}(hi:i<l.length):Bnd t e (gt t l i):=by
 refine h _ ?_;unfold Sx.gt;rw[q4X,q51 hi];exact List.getElem_mem hi
def ratP(b:Bd)(x:Rat):List WA:=[.pp (x.num<0) inferInstance,.dt .mag (.n b.nb) x.num.natAbs,.dt (.sl (.nat .u32)) (IP b.nb) (denL x.den)]
theorem Xe(b:Bd)(x:Rat):WAs.exp (ratP b x)=ql .rat x:=by
 show[Atom.val (.bool _)]++([Atom.abs _]++(ql (.sl (.nat .u32)) (denL x.den)++[]))=_;rw[<-KJ];rfl
theorem q0c{b:Bd}{x:Rat}(h:Bnd .rat b x):WAs.ok (ratP b x):=by
 have h:=Bnd.rat h;intro a ha;simp only[ratP,q5d,q5l,or_false]at ha;rcases ha with rfl|rfl|rfl
 .trivial
 .exact h.1
 .exact Bnd.denL h.2
def cutW:Nat->List WA->Nat->Option (List WA×List WA)
 |0,_,_=>none
 |_+1,l,0=>some ([],l)
 |_+1,[],_+1=>none
 |f+1,a::r,n+1=>bif Nat.ble a.wd (n+1)then(match cutW f r (n+1-a.wd)with|some (x,y)=>some (a::x,y)|none=>none)
  else match a with
   | .dt (.pr t u) b x=>cutW f (.dt t b.l x.1:: .dt u b.r x.2::r) (n+1)
   | .dt (.st t) b x=>cutW f (.dt t b x::r) (n+1)
   | .dt .rat b x=>cutW f (ratP b x++r) (n+1)
   |_=>none
theorem WAs.exp_cons(a:WA)(l:List WA):WAs.exp (a::l)=a.exp++WAs.exp l:=by simp[WAs.exp]
theorem WAs.exp_app(l l':List WA):WAs.exp (l++l')=WAs.exp l++WAs.exp l':=by simp[WAs.exp]
theorem WAs.ok_cons{a:WA}{l:List WA}:WAs.ok (a::l)↔a.ok/\WAs.ok l:=by simp[WAs.ok]
theorem WAs.ok_app{l l':List WA}:WAs.ok (l++l')↔WAs.ok l/\WAs.ok l':=by
 simp only[WAs.ok,q5c];exact⟨λh=>⟨λa ha=>h a (.inl ha),λa ha=>h a (.inr ha)⟩,λh a ha=>ha.elim (h.1 a) (h.2 a)⟩
theorem Ay: ∀{f:Nat}{l:List WA}{n:Nat}{x y:List WA},cutW f l n=some (x,y)->WAs.exp l=WAs.exp x++WAs.exp y/\(WAs.exp x).length=n/\(WAs.ok l->WAs.ok x/\WAs.ok y)
 |0,_,_,_,_,h=>by simp[cutW]at h
 |_+1,l,0,x,y,h=>by
  simp[cutW]at h;obtain⟨rfl,rfl⟩:=h
  exact⟨rfl,rfl,λh=>⟨λa ha=>by simp at ha,h⟩⟩
 |_+1,[],_+1,_,_,h=>by simp[cutW]at h
 |f+1,a::r,n+1,x,y,h=>by
  simp only[cutW]at h
  cases hb:Nat.ble a.wd (n+1)with
  |true=>
   rw[hb]at h;simp only[cond_true]at h
   cases hc:cutW f r (n+1-a.wd)with
   |none=>rw[hc]at h;cases h
   |some q=>
    obtain⟨x',y'⟩:=q;rw[hc]at h;simp only[q61,q62]at h;obtain⟨rfl,rfl⟩:=h
    obtain⟨h1,h2,h3⟩:=Ay hc;have hle:=q5y hb;refine⟨by rw[WAs.exp_cons,h1,WAs.exp_cons,q4R],by rw[WAs.exp_cons,q55,h2,WA.exp_len];omega,λhk=>?_⟩;rw[WAs.ok_cons]at hk⊢;exact⟨⟨hk.1,(h3 hk.2).1⟩,(h3 hk.2).2⟩
  |false=>
   rw[hb]at h;simp only[cond_false]at h
   split at h
   .rename_i t u b z
    obtain⟨h1,h2,h3⟩:=Ay h;refine⟨?_,h2,λhk=>h3 ?_⟩
    .rw[<-h1,WAs.exp_cons,WAs.exp_cons,WAs.exp_cons,<-q4R]
     congr 1
     show ql _ _=ql _ _++ql _ _;simp[ql,cellsC]
    .rw[WAs.ok_cons]at hk
     rw[WAs.ok_cons,WAs.ok_cons];exact⟨(Bnd.pr hk.1).1,(Bnd.pr hk.1).2,hk.2⟩
   .rename_i t b z
    obtain⟨h1,h2,h3⟩:=Ay h;refine⟨?_,h2,λhk=>h3 ?_⟩
    .rw[<-h1,WAs.exp_cons,WAs.exp_cons];rfl
    .rw[WAs.ok_cons]at hk⊢
     exact⟨hk.1,hk.2⟩
   .rename_i b z
    obtain⟨h1,h2,h3⟩:=Ay h;refine⟨?_,h2,λhk=>h3 ?_⟩
    .rw[<-h1,WAs.exp_app,Xe,WAs.exp_cons];rfl
    .rw[WAs.ok_cons]at hk
     rw[WAs.ok_app];exact⟨q0c hk.1,hk.2⟩
   .cases h
def carve(l:List WA)(off s:Nat):Option (List WA×List WA×List WA):=
 match cutW 400 l off with
 |some (a,r)=>match cutW 400 r s with
  |some (m,p)=>some (a,m,p)
  |none=>none
 |none=>none
theorem jq{l:List WA}{off s:Nat}{a m p:List WA}(h:carve l off s=some (a,m,p)):
  WAs.exp l=WAs.exp a++(WAs.exp m++WAs.exp p)/\(WAs.exp a).length=off/\(WAs.exp m).length=s/\(WAs.ok l->WAs.ok a/\WAs.ok m/\WAs.ok p):=by
 unfold carve at h
 cases h1:cutW 400 l off with
 |none=>rw[h1]at h;cases h
 |some q=>
  obtain⟨a',r⟩:=q;rw[h1]at h;simp only at h
  cases h2:cutW 400 r s with
  |none=>rw[h2]at h;cases h
  |some q=>
   obtain⟨m',p'⟩:=q;rw[h2]at h;simp only[q61,q62]at h;obtain⟨rfl,rfl,rfl⟩:=h
   obtain⟨e1,l1,o1⟩:=Ay h1;obtain⟨e2,l2,o2⟩:=Ay h2;exact⟨by rw[e1,e2],l1,l2,λhk=>⟨(o1 hk).1,o2 (o1 hk).2⟩⟩
theorem z7{l:List WA}{off s:Nat}{a m p:List WA}(h:carve l off s=some (a,m,p)):((WAs.exp l).drop off).take s=WAs.exp m/\off+s<=(WAs.exp l).length:=by
 obtain⟨e,l1,l2,_⟩:=jq h;rw[e];refine⟨?_,by simp only[q55];omega⟩;rw[List.drop_append,q4T (by omega),q5k,l1,Nat.sub_self,q4U,q5m (by omega),q5o (by omega)]
theorem By{l:List WA}{off s:Nat}{a m p x:List WA}(h:carve l off s=some (a,m,p))(hx:(WAs.exp x).length=s):spl (WAs.exp l) off (WAs.exp x)=WAs.exp (a++(x++p)):=by
 obtain⟨e,l1,l2,_⟩:=jq h;unfold spl;rw[e,WAs.exp_app,WAs.exp_app,q5m (by omega),q5o (by omega)]
 congr 2
 rw[List.drop_append,q4T (by omega),q5k,List.drop_append,q4T (by omega),q5k,show off+(WAs.exp x).length-(WAs.exp a).length-(WAs.exp m).length=0 by omega,q4U]
def Ju:(t:Ty)->Bd->t.den->WA
 | .st t,b,x=>Ju t b x
 |t,b,x=> .dt t b x
def unst:WA->WA
 | .dt t b x=>Ju t b x
 |a=>a
theorem Jv: ∀(t:Ty)(b:Bd)(x:t.den),(Ju t b x).exp=ql t x/\(Bnd t b x->(Ju t b x).ok)/\(Ju t b x).wd=t.w
 | .st t,b,x=>Jv t b x
 | .nat _,_,_| .int _,_,_| .bool,_,_| .str,_,_| .mag,_,_| .rat,_,_| .sl _,_,_| .pr _ _,_,_| .fn _,_,_| .pt _,_,_| .cl _ _,_,_=>⟨rfl,λh=>h,rfl⟩
theorem VE(a:WA):(unst a).exp=a.exp/\(a.ok->(unst a).ok)/\(unst a).wd=a.wd:=by
 cases a with
 |dt t b x=>exact Jv t b x
 |_=>exact⟨rfl,λh=>h,rfl⟩
theorem jA: ∀{l:List Atom},AImps l l
 |[]=>trivial
 |_::_=>⟨Pk,jA⟩
theorem wq: ∀{a a' b b':List Atom},AImps a a'->AImps b b'->AImps (a++b) (a'++b')
 |[],[],_,_,_,h=>h
 |_::_,_::_,_,_,h,k=>⟨h.1,wq h.2 k⟩
 |[],_::_,_,_,h,_=>h.elim
 |_::_,[],_,_,h,_=>h.elim
theorem Gf: ∀{a b:List Atom},AImps a b->a.length=b.length
 |[],[],_=>rfl
 |_::_,_::_,h=>by simp[Gf h.2]
 |[],_::_,h=>h.elim
 |_::_,[],h=>h.elim
theorem q0X{l l':List Atom}(h:l=l'):AImps l l':=h▸jA
theorem DO(t:Ty):AImps [.val (.slice none 0 0)] (ql (.sl t) []):=
 ⟨λβ H v⟨h,_⟩=>by subst h;exact⟨none,0,rfl,q5B _,.inl rfl⟩,trivial⟩
theorem q1R(t:Ty)(l:List t.den):AImps [.abs (nnP (jc t l) l.length)] (ql (.sl t) l):=⟨λβ H v h=>Un H v h,trivial⟩
def vX:WA->Bool
 | .vl (.slice none n c)=>Nat.beq n 0&&Nat.beq c 0
 |_=>false
theorem zZ{a:WA}(h:vX a=true):a= .vl (.slice none 0 0):=by
 unfold vX at h;split at h
 .simp only[q4L]at h
  rw[q5w h.1,q5w h.2]
 .cases h
def wS:WA->Bool
 | .vl (.bool b)=>!b
 |_=>false
theorem EA{a:WA}(h:wS a=true):a= .vl (.bool false):=by
 unfold wS at h;split at h
 .simp at h;rw[h]
 .cases h
def isFn(f:FuncId):WA->Bool
 | .vl (.func (.func g) a b)=>Nat.beq f g&&Nat.beq a.size 0&&Nat.beq b.size 0
 |_=>false
theorem PT{f:FuncId}{a:WA}(h:isFn f a=true):a= .vl (.func (.func f) #[] #[]):=by
 unfold isFn at h;split at h
 .rename_i g x y
  simp only[q4L]at h;obtain⟨⟨h1,h2⟩,h3⟩:=h;rw[q5w h1,q4K (q5w h2),q4K (q5w h3)]
 .cases h
abbrev va:{t t':Ty}->t.beq t'=true->t.den->t'.den
 | .nat _,.nat _,_,x=>x
 | .int _,.int _,_,x=>x
 | .mag,.mag,_,x=>x
 | .rat,.rat,_,x=>x
 |_,_,h,x=>(Ty.beq_eq h)▸x
theorem Dp{t:Ty}(h:t.beq t=true)(x:t.den):va h x=x:=by cases t<;>rfl
def same(t:Ty):List WA->Option (Bd×t.den×List WA)
 | .dt t' b x::r=>if h:t'.beq t=true then some (b,va h x,r)else none
 |_=>none
theorem G6{t:Ty}{l r:List WA}{b:Bd}{x:t.den}(h:same t l=some (b,x,r)):l= .dt t b x::r:=by
 unfold same at h;split at h
 .rename_i t' b' x' r'
  split at h
  .rename_i hb
   have:=Ty.beq_eq hb;subst this;simp only[Dp,q61,q62]at h;obtain⟨rfl,rfl,rfl⟩:=h;rfl
  .cases h
 .cases h
def leaf:(t:Ty)->List WA->Option (Bd×t.den×List WA)
 | .nat k,.kn k' (.ofNat n)::r=>bif kbeq k k' then some (.n n,n,r)else none
 | .int k,.kn k' z::r=>bif kbeq k k' then some (.n z.natAbs,z,r)else none
 | .int k,.dt (.nat k') b (x:Nat)::r=>bif kbeq k k' then some (.n b.nb,(x:Int),r)else none
 | .bool,.pp q i::r=>some (.u,@decide q i,r)
 | .bool,.vl (.bool b)::r=>some (.u,b,r)
 | .str,.vl (.string s)::r=>some (.n s.size,s,r)
 | .mag,a::r=>bif vX a then some (.n 0,(0:Nat),r)else none
 | .rat,a::b::c::r=>bif wS a&&vX b&&vX c then some (.n 0,(0:Rat),r)else none
 | .sl (.nat .u32),.dt .mag b x::r=>some (IP b.nb,limbs x,r)
 | .sl t,.nn t' b l::r=>if h:(Ty.sl t').beq (.sl t)=true then some (b,va h l,r)else none
 | .sl _,a::r=>bif vX a then some (.s 0 .u,[],r)else none
 | .fn f,a::r=>bif isFn f a then some (.u,(),r)else none
 |_,_=>none
def reify:(t:Ty)->List WA->Option (Bd×t.den×List WA)
 |t,l=>match same t l with
  |some q=>some q
  |none=>match t with
   | .pr a b=>match reify a l with
    |some (b1,x,r)=>match reify b r with
     |some (b2,y,r')=>some (.p b1 b2,(x,y),r')
     |none=>none
    |none=>none
   | .st a=>match reify a l with
    |some (b,x,r)=>some (b,x,r)
    |none=>none
   |t=>leaf t l
def Rd(t:Ty)(l:List WA)(b:Bd)(x:t.den)(r:List WA):Prop:=
 ∃m,WAs.exp l=m++WAs.exp r/\AImps m (ql t x)/\(WAs.ok l->Bnd t b x/\WAs.ok r)
theorem U9{t:Ty}{l r:List WA}{b:Bd}{x:t.den}(h:leaf t l=some (b,x,r)):Rd t l b x r:=by
 unfold leaf at h;split at h
 .rename_i k k' n r'
  cases hk:kbeq k k' with
  |false=>rw[hk]at h;cases h
  |true=>
   rw[hk]at h;simp only[cond_true,q61,q62]at h;obtain⟨rfl,rfl,rfl⟩:=h
   have:=vy hk;subst this
   exact⟨_,WAs.exp_cons _ _,jA,λh=>⟨q5B _,(WAs.ok_cons.1 h).2⟩⟩
 .rename_i k k' n r'
  cases hk:kbeq k k' with
  |false=>rw[hk]at h;cases h
  |true=>
   rw[hk]at h;simp only[cond_true,q61,q62]at h;obtain⟨rfl,rfl,rfl⟩:=h
   have:=vy hk;subst this
   exact⟨_,WAs.exp_cons _ _,jA,λh=>⟨q5B _,(WAs.ok_cons.1 h).2⟩⟩
 .rename_i k k' b' x' r'
  cases hk:kbeq k k' with
  |false=>rw[hk]at h;cases h
  |true=>
   rw[hk]at h;simp only[cond_true,q61,q62]at h;obtain⟨rfl,rfl,rfl⟩:=h
   have:=vy hk;subst this
   exact⟨_,WAs.exp_cons _ _,jA,λh=>⟨by have:=Bnd.nat (WAs.ok_cons.1 h).1;show Int.natAbs (Int.ofNat _)<=_;simpa using this,(WAs.ok_cons.1 h).2⟩⟩
 .simp only[q61,q62]at h;obtain⟨rfl,rfl,rfl⟩:=h
  exact⟨_,WAs.exp_cons _ _,jA,λh=>⟨trivial,(WAs.ok_cons.1 h).2⟩⟩
 .simp only[q61,q62]at h;obtain⟨rfl,rfl,rfl⟩:=h
  exact⟨_,WAs.exp_cons _ _,jA,λh=>⟨trivial,(WAs.ok_cons.1 h).2⟩⟩
 .simp only[q61,q62]at h;obtain⟨rfl,rfl,rfl⟩:=h
  exact⟨_,WAs.exp_cons _ _,jA,λh=>⟨q5B _,(WAs.ok_cons.1 h).2⟩⟩
 .rename_i a r'
  cases ha:vX a with
  |false=>rw[ha]at h;cases h
  |true=>
   rw[ha]at h;simp only[cond_true,q61,q62]at h;obtain⟨rfl,rfl,rfl⟩:=h
   have:=zZ ha;subst this
   exact⟨_,WAs.exp_cons _ _,by rw[Bz];exact DO _,λh=>⟨show(0:Nat)<2^0 from by decide,(WAs.ok_cons.1 h).2⟩⟩
 .rename_i a b' c r'
  cases ha:wS a&&vX b'&&vX c with
  |false=>rw[ha]at h;cases h
  |true=>
   rw[ha]at h;simp only[cond_true,q61,q62]at h;obtain⟨rfl,rfl,rfl⟩:=h
   simp only[q4L]at ha;obtain⟨⟨h1,h2⟩,h3⟩:=ha;have:=EA h1;subst this
   have:=zZ h2;subst this
   have:=zZ h3;subst this
   refine⟨[.val (.bool false),.val (.slice none 0 0),.val (.slice none 0 0)],rfl,⟨Pk,?_,?_,trivial⟩,λh=>⟨⟨show(0:Nat)<2^0 from by decide,show(1:Nat)<=2^0 from by decide⟩,(WAs.ok_cons.1 (WAs.ok_cons.1 (WAs.ok_cons.1 h).2).2).2⟩⟩
   .have:=(DO (.nat .u32)).1
    intro β H v hv;exact this β H v hv
   .have:=(DO (.nat .u32)).1
    intro β H v hv;exact this β H v hv
 .rename_i b' x' r'
  simp only[q61,q62]at h;obtain⟨rfl,rfl,rfl⟩:=h
  exact⟨_,WAs.exp_cons _ _,q0X (Bz _),λh=>⟨Bnd.limbs (Bnd.mag (WAs.ok_cons.1 h).1),(WAs.ok_cons.1 h).2⟩⟩
 .rename_i t t' b' l' r' _
  split at h
  .rename_i hb
   have:=Ty.beq_eq hb;cases this;simp only[q61,q62]at h;obtain⟨rfl,rfl,rfl⟩:=h;exact⟨_,WAs.exp_cons _ _,q1R _ _,λh=>⟨(WAs.ok_cons.1 h).1,(WAs.ok_cons.1 h).2⟩⟩
  .cases h
 .rename_i t a r' _ _
  cases ha:vX a with
  |false=>rw[ha]at h;cases h
  |true=>
   rw[ha]at h;simp only[cond_true,q61,q62]at h;obtain⟨rfl,rfl,rfl⟩:=h
   have:=zZ ha;subst this
   exact⟨_,WAs.exp_cons _ _,DO _,λh=>⟨⟨q5B _,λx hx=>by simp at hx⟩,(WAs.ok_cons.1 h).2⟩⟩
 .rename_i f a r'
  cases ha:isFn f a with
  |false=>rw[ha]at h;cases h
  |true=>
   rw[ha]at h;simp only[cond_true,q61,q62]at h;obtain⟨rfl,_,rfl⟩:=h
   have:=PT ha;subst this
   exact⟨_,WAs.exp_cons _ _,jA,λh=>⟨trivial,(WAs.ok_cons.1 h).2⟩⟩
 .cases h
theorem z6: ∀{t:Ty}{l r:List WA}{b:Bd}{x:t.den},reify t l=some (b,x,r)->Rd t l b x r:=by
 intro t
 induction t with
 |pr a b iha ihb=>
  intro l r bd x h;unfold reify at h
  cases hs:same (.pr a b) l with
  |some q=>
   rw[hs]at h;simp only[q61]at h;subst h
   have:=G6 hs;subst this
   exact⟨_,WAs.exp_cons _ _,jA,λh=>WAs.ok_cons.1 h⟩
  |none=>
   rw[hs]at h;simp only at h
   cases h1:reify a l with
   |none=>rw[h1]at h;cases h
   |some q=>
    obtain⟨b1,y,r1⟩:=q;rw[h1]at h;simp only at h
    cases h2:reify b r1 with
    |none=>rw[h2]at h;cases h
    |some q=>
     obtain⟨b2,z,r2⟩:=q;rw[h2]at h;simp only[q61,q62]at h;obtain⟨rfl,rfl,rfl⟩:=h
     obtain⟨m1,e1,i1,o1⟩:=iha h1;obtain⟨m2,e2,i2,o2⟩:=ihb h2;refine⟨m1++m2,by rw[e1,e2,q4R],?_,λhk=>⟨⟨(o1 hk).1,(o2 (o1 hk).2).1⟩,(o2 (o1 hk).2).2⟩⟩;have:ql (.pr a b) (y,z)=ql a y++ql b z:=by simp[ql,cellsC]
     rw[this];exact wq i1 i2
 |st a iha=>
  intro l r bd x h;unfold reify at h
  cases hs:same (.st a) l with
  |some q=>
   rw[hs]at h;simp only[q61]at h;subst h
   have:=G6 hs;subst this
   exact⟨_,WAs.exp_cons _ _,jA,λh=>WAs.ok_cons.1 h⟩
  |none=>
   rw[hs]at h;simp only at h
   cases h1:reify a l with
   |none=>rw[h1]at h;cases h
   |some q=>
    obtain⟨b1,y,r1⟩:=q;rw[h1]at h;simp only[q61,q62]at h;obtain⟨rfl,rfl,rfl⟩:=h
    exact iha h1
 |_=>
  intro l r bd x h;unfold reify at h;split at h
  .rename_i q hs
   simp only[q61]at h;subst h
   have:=G6 hs;subst this
   exact⟨_,WAs.exp_cons _ _,jA,λh=>WAs.ok_cons.1 h⟩
  .exact U9 h
def BImp(k:Nat)(b b':Blk):Prop:= ∀β w H,b.rep β w H k->b'.rep β w H k
def LImp:List (Nat×Option Blk)->List (Nat×Option Blk)->Prop
 |[],[]=>True
 |(k,none)::r,(k',none)::r'=>k=k'/\LImp r r'
 |(k,some b)::r,(k',some b')::r'=>k=k'/\BImp k b b'/\LImp r r'
 |_,_=>False
theorem LImp.keys: ∀{l l':List (Nat×Option Blk)},LImp l l'->l.map (λp=>(p.1,p.2.isSome))=l'.map (λp=>(p.1,p.2.isSome))
 |[],[],_=>rfl
 |(k,none)::r,(k',none)::r',h=>by simp[h.1,LImp.keys h.2]
 |(k,some b)::r,(k',some b')::r',h=>by simp[h.1,LImp.keys h.2.2]
 |(_,none)::_,(_,some _)::_,h=>h.elim
 |(_,some _)::_,(_,none)::_,h=>h.elim
 |[],_::_,h=>h.elim
 |(_,none)::_,[],h=>h.elim
 |(_,some _)::_,[],h=>h.elim
theorem LImp.get: ∀{l l':List (Nat×Option Blk)},LImp l l'-> ∀{k b'},(k,some b')∈l'-> ∃b,(k,some b)∈l/\BImp k b b'
 |[],[],_,_,_,hm=>by simp at hm
 |(k,none)::r,(k',none)::r',h,q,b',hm=>by
  rcases q5d.1 hm with e|hm
  .cases e
  .obtain⟨b,hb,hi⟩:=LImp.get h.2 hm;exact⟨b,q5e _ hb,hi⟩
 |(k,some b)::r,(k',some b1)::r',h,q,b',hm=>by
  rcases q5d.1 hm with e|hm
  .cases e;obtain⟨rfl,h2,_⟩:=h;exact⟨b,q5f,h2⟩
  .obtain⟨b,hb,hi⟩:=LImp.get h.2.2 hm;exact⟨b,q5e _ hb,hi⟩
 |(_,none)::_,(_,some _)::_,h,_,_,_=>h.elim
 |(_,some _)::_,(_,none)::_,h,_,_,_=>h.elim
 |[],_::_,h,_,_,_=>h.elim
 |(_,none)::_,[],h,_,_,_=>h.elim
 |(_,some _)::_,[],h,_,_,_=>h.elim
theorem Zw{kin kin':List (Nat×Blk)}{l l':List (Nat×Option Blk)}(h:l.map (λp=>(p.1,p.2.isSome))=l'.map (λp=>(p.1,p.2.isSome)))(hk: ∀k,(look kin k).isSome=(look kin' k).isSome):
  kwOf kin l=kwOf kin' l'/\qu kin l=qu kin' l'/\jk l=jk l':=by
 have h1:l.map (·.1)=l'.map (·.1):=by
  have:=congrArg (List.map Prod.fst) h;simpa[List.map_map,Function.comp_def]using this
 have hf: ∀(l:List (Nat×Option Blk))(q:Bool),(l.filter λp=>p.2.isSome==q).map (·.1)=((l.map λp=>(p.1,p.2.isSome)).filter λp=>p.2==q).map (·.1):=by
  intro l q
  induction l with
  |nil=>rfl
  |cons a l ih=>simp only[List.filter_cons,q5b];cases a.2.isSome==q<;>simp[ih]
 have h2: ∀q,(l.filter λp=>p.2.isSome==q).map (·.1)=(l'.filter λp=>p.2.isSome==q).map (·.1):=λq=>by rw[hf,hf,h]
 have e1: ∀l:List (Nat×Option Blk),(l.filter (·.2.isSome))=l.filter λp=>p.2.isSome==true:=λl=>by congr;funext p;simp
 have e2: ∀l:List (Nat×Option Blk),(l.filter (·.2.isNone))=l.filter λp=>p.2.isSome==false:=λl=>by congr;funext p;cases p.2<;>rfl
 refine⟨?_,?_,?_⟩
 .unfold kwOf;rw[h1];congr;funext k;rw[hk]
 .unfold qu;rw[e1,e1,h2]
  congr;funext k
  have:=hk k;cases h3:look kin k<;>cases h4:look kin' k<;>simp_all
 .unfold jk;rw[e2,e2,h2]
theorem OpOk.weak{P:Program}{op:Op}{ty:TypeId}{ins:List (Operand×AV)}{kin:List (Nat×Blk)}{R R':AV}{Lw Lw':List (Nat×Option Blk)}(h:OpOk P op ty ins kin R Lw)
  (hR: ∀β H v,R.sat β H v->R'.sat β H v)(hL:LImp Lw Lw'):OpOk P op ty ins kin R' Lw':=by
 intro dst pos after guard a w H β K Q h1 h2 h3 h4 hK;refine h dst pos after guard a w H β K Q h1 h2 h3 h4 ?_;intro v w' H' β' hs hr hl;obtain⟨e1,e2,e3⟩:=Zw (kin:=kin) (kin':=kin) hL.keys (λ_=>rfl);refine hK v w' H' β' (by rw[<-e1,<-e2,<-e3];exact hs) (hR _ _ _ hr) ?_;intro k b' hb;obtain⟨b,hm,hi⟩:=hL.get hb;exact hi _ _ _ (hl k b hm)
theorem wQ{k:Nat}{l l':List Atom}(h:AImps l l'):BImp k (.rigid l) (.rigid l'):=λβ w H⟨b,c,arr,T,h1,h2,h3⟩=>⟨b,c,arr,T,h1,h2,AImps.sats h h3⟩
theorem KG{k es:Nat}{l l':List Atom}(h:AImps l l'):BImp k (.grow es l) (.grow es l'):=by
 intro β w H hr;have hl:=Gf h;rcases hr with⟨h1,h2⟩|⟨b,c,arr,T,h1,h2,h3,h4,h5⟩
 .refine .inl ⟨h1,?_⟩
  rw[h2]at hl;exact q4V hl.symm
 .exact .inr ⟨b,c,arr,T,h1,h2,h3,by omega,by rw[<-hl];exact AImps.sats h h5⟩
section
inductive HR where
 |bad
 |ok (vc:List Prop) (R:WV) (ks:List Nat) (Lw:List (Nat×Option WB))
 |spl (q:Prop) (R1 R2:WV)
 |okA (vc:List Prop) (R:WV) (k:Nat) (b':WB)
def LwE(Lw:List (Nat×Option WB)):List (Nat×Option Blk):=Lw.map λp=>(p.1,p.2.map WB.exp)
def kinE(kin:List (Nat×WB)):List (Nat×Blk):=kin.map λp=>(p.1,p.2.exp)
def LwOk(Lw:List (Nat×Option WB)):Prop:= ∀k b,(k,some b)∈Lw->b.ok
def wO:WV:= .tup []
theorem Dm:wO.ok:=λx hx=>by simp at hx
def HOk(P:Program)(op:Op)(ty:TypeId)(xs:List Operand)(vs:List WV)(bl:Nat->Option WB):HR->Prop
 | .bad=>True
 | .ok vc R ks Lw=>(∀v∈vs,v.ok)->(∀k b,bl k=some b->b.ok)->(∀p∈vc,p)-> ∀kin:List (Nat×WB),kin.map (·.1)=ks->(∀p∈kin,bl p.1=some p.2)->
   OpOk P op ty (List.zip xs (vs.map WV.exp)) (kinE kin) R.exp (LwE Lw)/\R.ok/\LwOk Lw
 | .spl q R1 R2=>(∀v∈vs,v.ok)->(q->OpOk P op ty (List.zip xs (vs.map WV.exp)) [] R1.exp []/\R1.ok)/\(¬q->OpOk P op ty (List.zip xs (vs.map WV.exp)) [] R2.exp []/\R2.ok)
 | .okA vc R k b'=>(∀v∈vs,v.ok)->(∀k b,bl k=some b->b.ok)->(∀p∈vc,p)-> ∀b,bl k=some b->
   OpOk P op ty (List.zip xs (vs.map WV.exp)) [(k,b.exp)] R.exp []/\OpOk P op ty (List.zip xs (vs.map WV.exp)) [(k,b'.exp)] R.exp []/\R.ok
theorem zS{kin:List (Nat×WB)}{k:Nat}{bl:Nat->Option WB}{b:WB}(h:kin.map (·.1)=[k])(hb: ∀p∈kin,bl p.1=some p.2)(e:bl k=some b):kin=[(k,b)]:=by
 match kin,h with
 |[(q,b')],h=>
  simp at h;subst h
  have:=hb _ q5f;simp only at this;rw[e]at this;cases this;rfl
theorem qg{kin:List (Nat×WB)}(h:kin.map (·.1)=[]):kin=[]:=by
 match kin,h with
 |[],_=>rfl
theorem qo:LwOk []:=λk b h=>by simp at h
theorem zT{k:Nat}{b:WB}(h:b.ok):LwOk [(k,some b)]:=λq b' hm=>by
 simp only[q5j,q62,q61]at hm;obtain⟨_,rfl⟩:=hm;exact h
def EL(g:Bool)(m:List WA):Option WC:=
 bif g then some (.agg m)else match m with
  |[a]=>bif Nat.beq a.wd 1 then some (.one (unst a))else none
  |_=>none
theorem FL{m:List WA}{x:WC}(h:EL true m=some x):x= .agg m:=by simp[EL]at h;exact h.symm
theorem FM{m:List WA}{x:WC}(h:EL false m=some x): ∃u,x.exp= .one u/\WAs.exp m=[u]/\(WAs.ok m->x.ok):=by
 unfold EL at h;simp only[cond_false]at h;split at h
 .rename_i a
  cases hw:Nat.beq a.wd 1 with
  |false=>rw[hw]at h;cases h
  |true=>
   rw[hw]at h;simp only[cond_true,q61]at h;subst h
   have hw:=q5w hw;obtain⟨h1,h2,h3⟩:=VE a;refine⟨_,rfl,?_,λhk=>⟨h2 (hk a (by simp)),by rw[h3,hw]⟩⟩;rw[WAs.exp_cons,h1,WA.exp_one hw];rfl
 .cases h
theorem NC{g:Bool}{m:List WA}{x:WC}(h:EL g m=some x)(hk:WAs.ok m):x.ok:=by
 cases g with
 |true=>rw[FL h];exact hk
 |false=>obtain⟨u,_,_,h⟩:=FM h;exact h hk
def DF(v:Value):Option WA:=
 match v with
 | .int k z=>some (.kn k z)
 |v=>bif v.oneC then some (.vl v)else none
theorem Ha{v:Value}{a:WA}(h:DF v=some a):a.exp=[.val v]/\a.ok/\a.wd=1/\v.oneC=true:=by
 unfold DF at h;split at h
 .simp at h;subst h;exact⟨rfl,trivial,rfl,rfl⟩
 .cases ho:v.oneC with
  |false=>rw[ho]at h;cases h
  |true=>rw[ho]at h;simp at h;subst h;exact⟨rfl,ho,rfl,rfl⟩
def wt:List Value->Option (List WA)
 |[]=>some []
 |v::r=>match DF v with
  |some a=>match wt r with
   |some l=>some (a::l)
   |none=>none
  |none=>none
theorem zQ: ∀{vs:List Value}{l:List WA},wt vs=some l->vG vs=some (WAs.exp l)/\WAs.ok l
 |[],l,h=>by simp[wt]at h;subst h;exact⟨rfl,λa ha=>by simp at ha⟩
 |v::r,l,h=>by
  simp only[wt]at h
  cases h1:DF v with
  |none=>rw[h1]at h;cases h
  |some a=>
   rw[h1]at h;simp only at h
   cases h2:wt r with
   |none=>rw[h2]at h;cases h
   |some l'=>
    rw[h2]at h;simp at h;subst h
    obtain⟨e1,o1,w1,c1⟩:=Ha h1;obtain⟨e2,o2⟩:=zQ h2;refine⟨?_,WAs.ok_cons.2 ⟨o1,o2⟩⟩;unfold vG at e2⊢
    cases hc:r.all Value.oneC with
    |false=>rw[hc]at e2;cases e2
    |true=>
     rw[hc]at e2;simp at e2
     rw[List.all_cons,c1,hc,WAs.exp_cons,e1,<-e2];rfl
def jP(v:Value):Option WV:=
 match DF v with
 |some a=>some (.c (.one a))
 |none=>match v with
  | .agg arr=>match wt arr.toList with
   |some l=>some (.c (.agg l))
   |none=>none
  |_=>none
theorem ws{v:Value}{x:WV}(h:jP v=some x):C3 v=some x.exp/\x.ok:=by
 unfold jP at h
 cases h1:DF v with
 |some a=>
  rw[h1]at h;simp at h;subst h
  obtain⟨e1,o1,w1,c1⟩:=Ha h1;refine⟨?_,o1,w1⟩;unfold C3;rw[c1];simp only[cond_true,WV.exp,WC.exp,e1,List.headD_cons]
 |none=>
  rw[h1]at h;simp only at h
  split at h
  .rename_i arr
   cases h2:wt arr.toList with
   |none=>rw[h2]at h;cases h
   |some l=>
    rw[h2]at h;simp at h;subst h
    obtain⟨e2,o2⟩:=zQ h2;refine⟨?_,o2⟩;unfold C3;simp only[Value.oneC,cond_false,e2,q60];rfl
  .cases h
section
variable {P:Program} {bl:Nat->Option WB} {ty:TypeId}
theorem Nh{x:Operand}{v:WV}:HOk P (.move x) ty [x] [v] bl (.ok [] v [] []):=λhv _ _ kin hk _=>by
 rw[qg hk];exact⟨Qh,hv v (by simp),qo⟩
theorem Hz{x:Operand}{v:WV}:HOk P (.assign x) ty [x] [v] bl (.ok [] v [] []):=λhv _ _ kin hk _=>by
 rw[qg hk];exact⟨Lj,hv v (by simp),qo⟩
def SP:WV->WV->WV->HR
 | .c (.one (.vl (.bool b))),x,y=> .ok [] (bif b then x else y) [] []
 | .c (.one (.pp q _)),x,y=> .spl q x y
 | .c (.one (.dt .bool _ b)),x,y=> .spl (b=true) x y
 |_,_,_=> .bad
theorem Ni{c x y:Operand}{a u v:WV}:HOk P (.pick c x y) ty [c,x,y] [a,u,v] bl (SP a u v):=by
 unfold SP;split
 .rename_i b
  intro hv _ _ kin hk _;rw[qg hk];refine⟨?_,by cases b<;>exact hv _ (by simp),qo⟩;have:=DR (P:=P) (c:=c) (x:=x) (y:=y) (ty:=ty) (b:=b) (u:=u.exp) (v:=v.exp);cases b<;>exact this
 .rename_i q i
  intro hv;have:=DR (P:=P) (c:=c) (x:=x) (y:=y) (ty:=ty) (b:= @decide q i) (u:=u.exp) (v:=v.exp);refine⟨λhq=>⟨?_,hv _ (by simp)⟩,λhq=>⟨?_,hv _ (by simp)⟩⟩
  .rw[show @decide q i=true from decide_eq_true hq]at this
   show OpOk P _ _ (List.zip [c,x,y] [.c (.one (.val (.bool (@decide q i)))),_,_]) _ _ _;rw[show @decide q i=true from decide_eq_true hq];exact this
  .rw[show @decide q i=false from decide_eq_false hq]at this
   show OpOk P _ _ (List.zip [c,x,y] [.c (.one (.val (.bool (@decide q i)))),_,_]) _ _ _;rw[show @decide q i=false from decide_eq_false hq];exact this
 .rename_i bb b
  intro hv;refine⟨λhq=>⟨?_,hv _ (by simp)⟩,λhq=>⟨?_,hv _ (by simp)⟩⟩
  .subst hq;exact DR (b:=true)
  .have:b=false:=by simpa using hq
   subst this;exact DR (b:=false)
 .exact trivial
def OG(P:Program)(t:TypeId)(d:Nat):HR:=
 match P.info? t with
 |some ti=>match ti.zero with
  |some z=>match wt z.cells.toList with
   |some zs=> .ok [] (.c (.one (.loc d 0))) [] [(d,some (.rig zs))]
   |none=> .bad
  |none=> .bad
 |none=> .bad
theorem JO{t:TypeId}{d:Nat}:HOk P (.alloc t) ty [] [] bl (OG P t d):=by
 unfold OG;split
 .rename_i ti hi
  split
  .rename_i z hz
   split
   .rename_i zs hzs
    intro _ _ _ kin hk _;rw[qg hk];obtain⟨h1,h2⟩:=zQ hzs;exact⟨X5 hi hz h1,⟨trivial,rfl⟩,zT h2⟩
   .exact trivial
  .exact trivial
 .exact trivial
def wBox(d:Nat):WV->HR
 | .c x=>bif (WAs.ids x.cells).all (λk=>!Nat.beq k d)then .ok [] (.c (.one (.loc d 0))) [] [(d,some (.rig x.cells))]else .bad
 | .tup _=> .bad
theorem JV{d:Nat}{l:List WA}(h:(WAs.ids l).all (λk=>!Nat.beq k d)=true):jC d (WAs.exp l)=false:=by
 cases hm:jC d (WAs.exp l)with
 |false=>rfl
 |true=>
  have:=List.all_eq_true.1 h d (WAs.men_ids hm);simp at this
theorem WC.ok_cells{x:WC}(h:x.ok):WAs.ok x.cells:=by
 cases x with
 |one a=>intro b hb;simp[WC.cells]at hb;subst hb;exact h.1
 |agg l=>exact h
theorem Rx{t:TypeId}{x:Operand}{v:WV}{d:Nat}:HOk P (.box t x) ty [x] [v] bl (wBox d v):=by
 unfold wBox;split
 .rename_i y
  cases hm:(WAs.ids y.cells).all (λk=>!Nat.beq k d)with
  |false=>exact trivial
  |true=>
   simp only[cond_true];intro hv _ _ kin hk _;rw[qg hk];have hy:y.ok:=hv _ q5f;have:=Uq (P:=P) (t:=t) (ty:=ty) (d:=d) (x:=x) (v:=y.exp) (by rw[WC.exp_cells hy];exact JV hm);rw[WC.exp_cells hy]at this;exact⟨this,⟨trivial,rfl⟩,zT (WC.ok_cells hy)⟩
 .exact trivial
def retM(g:Bool)(vc:List Prop)(m:List WA)(ks:List Nat):HR:=
 match EL g m with
 |some x=> .ok vc (.c x) ks []
 |none=> .bad
def SN(P:Program)(bl:Nat->Option WB)(t:TypeId):WV->HR
 | .c (.one (.loc k off))=>match bl k with
  |some (.rig l)=>match qQ P t with
   |some (g,s)=>match carve l off s with
    |some (_,m,_)=>retM g [] m [k]
    |none=> .bad
   |none=> .bad
  |_=> .bad
 | .c (.one (.el k i fo w))=>match bl k with
  |some (.arr t' b l)=>bif Nat.beq w t'.w then match qQ P t with
   |some (g,s)=>match carve [.dt t' b (gt t' l i)] fo s with
    |some (_,m,_)=>retM g [i<l.length] m [k]
    |none=> .bad
   |none=> .bad
   else .bad
  |some (.gro t' b l)=>bif Nat.beq w t'.w then match qQ P t with
   |some (g,s)=>match carve [.dt t' b (gt t' l i)] fo s with
    |some (_,m,_)=>retM g [i<l.length] m [k]
    |none=> .bad
   |none=> .bad
   else .bad
  |_=> .bad
 | .c (.one (.ip t' b x fo))=>match qQ P t with
   |some (g,s)=>bif Nat.beq s 0 then .bad else match carve [.dt t' b x] fo s with
    |some (_,m,_)=>retM g [] m []
    |none=> .bad
   |none=> .bad
 |_=> .bad
theorem zW(t:Ty)(b:Bd)(x:t.den):WAs.exp [.dt t b x]=ql t x:=by simp[WAs.exp,WA.exp]
theorem Ja{α:Type}{l:List α}{off:Nat}{u:α}(h:(l.drop off).take 1=[u]):l[off]?=some u:=by
 have:((l.drop off).take 1)[0]?=some u:=by rw[h];rfl
 rw[q53 (by decide),q50]at this;simpa using this
theorem Hs{t:Ty}{b:Bd}{l:List t.den}{i fo s:Nat}{a m p:List WA}(hi:i<l.length)(h:carve [.dt t b (gt t l i)] fo s=some (a,m,p)):
  ((qI t l).drop (i*t.w+fo)).take s=WAs.exp m/\i*t.w+fo+s<=(qI t l).length:=by
 obtain⟨h1,h2⟩:=z7 h;rw[zW]at h1 h2;rw[vI]at h2;have hl:(i+1)*t.w<=l.length*t.w:=q5O _ hi;rw[q5V]at hl;refine⟨?_,by rw[zk];omega⟩;rw[<-h1,<-Pl t l i hi,List.drop_take,q4S,q5q,q5G (by omega)]
theorem BX {g : Bool} {vc : List Prop} {m : List WA} {ks : List Nat} {op : Op} {xs : List Operand} {vs : List WV}
  (hg : ∀ kin : List (Nat × WB), (∀ v ∈ vs, v.ok) -> (∀ k b, bl k = some b -> b.ok) -> (∀ p ∈ vc, p) -> kin.map (·.1) = ks -> (∀ p ∈ kin, bl p.1 = some p.2) ->
   WAs.ok m /\ (g = true -> OpOk P op ty (List.zip xs (vs.map WV.exp)) (kinE kin) (.c (.agg (WAs.exp m))) []) /\ (∀ u, g = false -> WAs.exp m = [u] -> OpOk P op ty (List.zip xs (vs.map WV.exp)) (kinE kin) (.c (.one u)) [])) :
  HOk P op ty xs vs bl (retM g vc m ks) := by
 unfold retM;split
 .rename_i x hx
  intro hv hb hvc kin hk hkb;obtain ⟨ho, h1, h2⟩ := hg kin hv hb hvc hk hkb;refine ⟨?_, NC hx ho, qo⟩
  cases g with
  | true => rw [FL hx]; exact h1 rfl
  | false =>
   obtain ⟨u, e1, e2, _⟩ := FM hx;show OpOk P op ty _ _ (.c x.exp) _;rw [e1]; exact h2 u rfl e2
 .exact trivial
theorem v8{t:Ty}{b:Bd}{x:t.den}(h:Bnd t b x):WAs.ok [.dt t b x]:=λa ha=>by simp at ha;subst ha;exact h
theorem Bu{t:TypeId}{l:List Atom}{u:Atom}{off s:Nat}(h:(l.drop off).take s=[u])(hn:off+s<=l.length):s=1:=by
 have:=congrArg List.length h;rw[q5a,q57,List.length_singleton]at this;omega
theorem Ng{t:TypeId}{x:Operand}{v:WV}:HOk P (.load t x) ty [x] [v] bl (SN P bl t v):=by
 unfold SN;split
 .rename_i k off
  split
  .rename_i l hl
   split
   .rename_i g s hs
    split
    .rename_i a m p hc
     refine BX λkin hv hb _ hk hkb=>?_
     rw[zS hk hkb hl];obtain⟨h1,h2⟩:=z7 hc;refine⟨((jq hc).2.2.2 (hb k _ hl)).2.1,λhg=>?_,λu hg hu=>?_⟩
     .subst hg;exact Du hs h1 h2
     .subst hg
      rw[hu]at h1;have:=Bu (t:=t) h1 h2;subst this;exact Dv hs (Ja h1)
    .exact trivial
   .exact trivial
  .exact trivial
 .rename_i k i fo w
  split
  .rename_i t' b l hl
   cases hw:Nat.beq w t'.w with
   |false=>exact trivial
   |true=>
    have hw:=q5w hw;subst hw;simp only[cond_true];split
    .rename_i g s hs
     split
     .rename_i a m p hc
      refine BX λkin hv hb hvc hk hkb=>?_
      have hi:i<l.length:=hvc _ q5f;rw[zS hk hkb hl];obtain⟨h1,h2⟩:=Hs hi hc;refine⟨((jq hc).2.2.2 (v8 (Bnd.gt (hb k _ hl) hi))).2.1,λhg=>?_,λu hg hu=>?_⟩
      .subst hg;exact Du hs h1 h2
      .subst hg
       rw[hu]at h1;have:=Bu (t:=t) h1 h2;subst this;exact Dv hs (Ja h1)
     .exact trivial
    .exact trivial
  .rename_i t' b l hl
   cases hw:Nat.beq w t'.w with
   |false=>exact trivial
   |true=>
    have hw:=q5w hw;subst hw;simp only[cond_true];split
    .rename_i g s hs
     split
     .rename_i a m p hc
      refine BX λkin hv hb hvc hk hkb=>?_
      have hi:i<l.length:=hvc _ q5f;rw[zS hk hkb hl];obtain⟨h1,h2⟩:=Hs hi hc;refine⟨((jq hc).2.2.2 (v8 (Bnd.gt (hb k _ hl) hi))).2.1,λhg=>?_,λu hg hu=>?_⟩
      .subst hg;exact CG hs h1 h2
      .subst hg
       rw[hu]at h1;have:=Bu (t:=t) h1 h2;subst this;exact FT hs (Ja h1)
     .exact trivial
    .exact trivial
  .exact trivial
 .rename_i t' b z fo
  split
  .rename_i g s hs
   cases hs0:Nat.beq s 0 with
   |true=>exact trivial
   |false=>
    simp only[cond_false];split
    .rename_i a m p hc
     refine BX λkin hv hb hvc hk hkb=>?_
     rw[qg hk];have hz:Bnd t' b z:=(hv _ q5f).1;obtain⟨h1,h2⟩:=z7 hc;rw[zW]at h1 h2;rw[vI]at h2
     have hs1:0<s:=by
      rcases q5x s with h|h
      .rw[h]at hs0;simp at hs0
      .exact h
     unfold ql at h1;rw[<-List.map_drop,<-List.map_take]at h1;refine⟨((jq hc).2.2.2 (v8 hz)).2.1,λhg=>?_,λu hg hu=>?_⟩
     .subst hg;exact J6 hs h1 (by rw[q57,jF];omega) hs1
     .subst hg
      rw[hu]at h1;show OpOk P _ _ [(x,.c (.one (.ptr ((cellsC t' z).drop fo))))] _ _ _
      match he:(cellsC t' z).drop fo,h1 with
      |[],h1=>simp at h1
      |c::r,h1=>
       have:s=s-1+1:=by omega
       rw[this]at h1;simp only[List.take_succ_cons,q5b,List.cons.injEq]at h1;rw[<-h1.1];exact J7 hs
    .exact trivial
  .exact trivial
 .exact trivial
def F2(k i fo s:Nat)(t':Ty)(b:Bd)(l:List t'.den)(v:WC)(mk:List t'.den->WB):HR:=
 bif Nat.beq (WAs.wd v.cells) s then match carve [.dt t' b (gt t' l i)] fo s with
  |some (a,_,p)=>match reify t' (a++(v.cells++p))with
   |some (b',x,[])=>bif b'.le b then .ok [i<l.length] wO [k] [(k,some (mk (l.set i x)))]else .ok [i<l.length,Bnd t' b x] wO [k] [(k,some (mk (l.set i x)))]
   |_=> .bad
  |none=> .bad
 else .bad
def OP(P:Program)(bl:Nat->Option WB)(t:TypeId):WV->WV->HR
 | .c (.one (.loc k off)),.c v=>match bl k with
  |some (.rig l)=>match qQ P t with
   |some (_,s)=>bif Nat.beq (WAs.wd v.cells) s then match carve l off s with
    |some (a,_,p)=> .ok [] wO [k] [(k,some (.rig (a++(v.cells++p))))]
    |none=> .bad
    else .bad
   |none=> .bad
  |_=> .bad
 | .c (.one (.el k i fo w)),.c v=>match bl k with
  |some (.arr t' b l)=>bif Nat.beq w t'.w then match qQ P t with
   |some (_,s)=>F2 k i fo s t' b l v (λl=> .arr t' b l)
   |none=> .bad
   else .bad
  |some (.gro t' b l)=>bif Nat.beq w t'.w then match qQ P t with
   |some (_,s)=>F2 k i fo s t' b l v (λl=> .gro t' b l)
   |none=> .bad
   else .bad
  |_=> .bad
 |_,_=> .bad
theorem RX{α:Type}{l:List α}{i:Nat}{x y:α}(h:y∈l.set i x):y∈l\/y=x:=List.mem_or_eq_of_mem_set h
theorem Ws{t':Ty}{b:Bd}{l:List t'.den}{i fo s:Nat}{a m p:List WA}{v:WC}{b':Bd}{x:t'.den}(hv:v.ok)(hb: ∀x∈l,Bnd t' b x)(hi:i<l.length)(hw:WAs.wd v.cells=s)
  (hc:carve [.dt t' b (gt t' l i)] fo s=some (a,m,p))(hr:reify t' (a++(v.cells++p))=some (b',x,[])):
  AImps (spl (qI t' l) (i*t'.w+fo) v.exp.cells) (qI t' (l.set i x))/\Bnd t' b' x/\v.exp.cells.length=s/\i*t'.w+fo+s<=(qI t' l).length:=by
 have hve:v.exp.cells=WAs.exp v.cells:=WC.exp_cells hv;have hvl:(WAs.exp v.cells).length=s:=by rw[WAs.exp_len,hw]
 obtain⟨h1,h2⟩:=Hs hi hc;obtain⟨m',e1,i1,o1⟩:=z6 hr;have hok:=(jq hc).2.2.2 (v8 (Bnd.gt hb hi));have e1':WAs.exp (a++(v.cells++p))=m':=by rw[e1];simp[WAs.exp]
 have hlen:(WAs.exp (a++(v.cells++p))).length=t'.w:=by rw[e1',Gf i1,vI]
 have hsp:=By hc hvl;rw[zW]at hsp;refine⟨?_,(o1 (WAs.ok_app.2 ⟨hok.1,WAs.ok_app.2 ⟨WC.ok_cells hv,hok.2.2⟩⟩)).1,by rw[hve,hvl],h2⟩;rw[<-W3 t' l i x hi,hve];have hel:=Pl t' l i hi
 have hli:i*t'.w+t'.w<=(qI t' l).length:=by
  have:(i+1)*t'.w<=l.length*t'.w:=q5O _ hi;rw[zk,<-q5V];exact this
 have hfo:fo+s<=t'.w:=by
  have:=(z7 hc).2
  rwa [zW,vI]at this
 have key:spl (qI t' l) (i*t'.w+fo) (WAs.exp v.cells)=spl (qI t' l) (i*t'.w) (WAs.exp (a++(v.cells++p))):=by
  rw[<-hsp,<-hel];unfold spl;have hl2:(((qI t' l).drop (i*t'.w)).take t'.w).length=t'.w:=by rw[q5a,q57];omega
  rw[q55,q55,q5a,q57,hl2,hvl];rw[show min fo t'.w=fo by omega,show fo+(s+(t'.w-(fo+s)))=t'.w by omega];rw[List.take_add,q4R,q4R,q4R]
  congr 1
  rw[q5q,q5G (by omega)]
  congr 2
  rw[List.drop_take,q4S,show i*t'.w+(fo+s)=i*t'.w+fo+s by omega];have:t'.w-(fo+s)+(i*t'.w+fo+s)=i*t'.w+t'.w:=by omega
  have h9:=(List.take_append_drop (t'.w-(fo+s)) ((qI t' l).drop (i*t'.w+fo+s))).symm;rw[q4S (i:=t'.w-(fo+s)),show i*t'.w+fo+s+(t'.w-(fo+s))=i*t'.w+t'.w by omega]at h9;exact h9
 rw[key];unfold spl;refine wq jA (wq (by rw[e1'];exact i1) ?_);rw[hlen,vI];exact jA
theorem L1{k i fo s:Nat}{t':Ty}{b:Bd}{l:List t'.den}{v:WC}{mk:List t'.den->WB}{t:TypeId}{x y:Operand}{g:Bool}(hs:qQ P t=some (g,s))(hl:bl k=some (mk l))(hmk: ∀l,(mk l).ok↔ ∀x∈l,Bnd t' b x)
  (hop: ∀(l:List t'.den)(v:Cmp)(off:Nat),v.cells.length=s->off+s<=(qI t' l).length-> ∀l',AImps (spl (qI t' l) off v.cells) (qI t' l')->OpOk P (.store t x y) ty [(x,.c (.one (.loc k off))),(y,.c v)] [(k,(mk l).exp)] AY [(k,some (mk l').exp)]):
  HOk P (.store t x y) ty [x,y] [.c (.one (.el k i fo t'.w)),.c v] bl (F2 k i fo s t' b l v mk):=by
 unfold F2
 cases hw:Nat.beq (WAs.wd v.cells) s with
 |false=>exact trivial
 |true=>
  simp only[cond_true];have hw:=q5w hw;split
  .rename_i a m p hc
   split
   .rename_i b' z hr
    have main:(∀u∈[(WV.c (.one (.el k i fo t'.w))),.c v],u.ok)->(∀k b,bl k=some b->b.ok)->i<l.length->(Bnd t' b' z->Bnd t' b z)-> ∀kin:List (Nat×WB),kin.map (·.1)=[k]->(∀p∈kin,bl p.1=some p.2)->
      OpOk P (.store t x y) ty (List.zip [x,y] ([(WV.c (.one (.el k i fo t'.w))),.c v].map WV.exp)) (kinE kin) wO.exp (LwE [(k,some (mk (l.set i z)))])/\wO.ok/\LwOk [(k,some (mk (l.set i z)))]:=by
     intro hv hb hi hbz kin hk hkb;rw[zS hk hkb hl];have hlb: ∀x∈l,Bnd t' b x:=(hmk l).1 (hb k _ hl);obtain⟨h1,h2,h3,h4⟩:=Ws (hv (.c v) (by simp)) hlb hi hw hc hr;refine⟨hop l v.exp _ h3 h4 _ h1,Dm,zT ((hmk _).2 λu hu=>?_)⟩;rcases RX hu with hu|rfl
     .exact hlb u hu
     .exact hbz h2
    cases hle:b'.le b with
    |true=>
     simp only[cond_true];intro hv hb hvc kin hk hkb;exact main hv hb (hvc _ q5f) (Bnd.mono hle) kin hk hkb
    |false=>
     simp only[cond_false];intro hv hb hvc kin hk hkb;exact main hv hb (hvc _ q5f) (λ_=>hvc (Bnd t' b z) (by simp)) kin hk hkb
   .exact trivial
  .exact trivial
theorem Ij{k:Nat}{b b':Blk}(h:BImp k b b'):LImp [(k,some b)] [(k,some b')]:=⟨rfl,h,trivial⟩
theorem JT{t:TypeId}{x y:Operand}{p v:WV}:HOk P (.store t x y) ty [x,y] [p,v] bl (OP P bl t p v):=by
 unfold OP;split
 .rename_i k off v
  split
  .rename_i l hl
   split
   .rename_i g s hs
    cases hw:Nat.beq (WAs.wd v.cells) s with
    |false=>exact trivial
    |true=>
     simp only[cond_true];have hw:=q5w hw;split
     .rename_i a m p hc
      intro hv hb hvc kin hk hkb;rw[zS hk hkb hl];have hv':v.ok:=hv (.c v) (by simp);have hvl:(WAs.exp v.cells).length=s:=by rw[WAs.exp_len,hw]
      have:=HS (P:=P) (ty:=ty) (x:=x) (y:=y) (k:=k) (off:=off) (cs:=WAs.exp l) (v:=v.exp) hs (by rw[WC.exp_cells hv',hvl]) (z7 hc).2;rw[WC.exp_cells hv',By hc hvl]at this;have hok:=(jq hc).2.2.2 (hb k _ hl);exact⟨this,Dm,zT (WAs.ok_app.2 ⟨hok.1,WAs.ok_app.2 ⟨WC.ok_cells hv',hok.2.2⟩⟩)⟩
     .exact trivial
   .exact trivial
  .exact trivial
 .rename_i k i fo w v
  split
  .rename_i t' b l hl
   cases hw:Nat.beq w t'.w with
   |false=>exact trivial
   |true=>
    have hw:=q5w hw;subst hw;simp only[cond_true];split
    .rename_i g s hs
     exact L1 hs hl (λl=>Iff.rfl) λl v off hvl hn l' hi=>(HS hs hvl hn).weak (λ_ _ _ h=>h) (Ij (wQ hi))
    .exact trivial
  .rename_i t' b l hl
   cases hw:Nat.beq w t'.w with
   |false=>exact trivial
   |true=>
    have hw:=q5w hw;subst hw;simp only[cond_true];split
    .rename_i g s hs
     exact L1 hs hl (λl=>Iff.rfl) λl v off hvl hn l' hi=>(F6 hs hvl hn).weak (λ_ _ _ h=>h) (Ij (KG hi))
    .exact trivial
  .exact trivial
 .exact trivial
def wNil:WV->HR
 | .c (.one (.loc k off))=> .ok [] (.c (.one (.loc k off))) [] []
 | .c (.one (.el k i fo w))=> .ok [] (.c (.one (.el k i fo w))) [] []
 | .c (.one (.ip t b x fo))=> .ok [] (.c (.one (.ip t b x fo))) [] []
 |_=> .bad
theorem RD{x:Operand}{v:WV}:HOk P (.nilCheck x) ty [x] [v] bl (wNil v):=by
 unfold wNil;split
 .exact λhv _ _ kin hk _=>by rw[qg hk];exact⟨A9 (IV _ _),hv _ (by simp),qo⟩
 .exact λhv _ _ kin hk _=>by rw[qg hk];exact⟨A9 (IV _ _),hv _ (by simp),qo⟩
 .exact λhv _ _ kin hk _=>by rw[qg hk];exact⟨A9 (q1L _),hv _ (by simp),qo⟩
 .exact trivial
def F0(P:Program)(s:TypeId)(f:Nat):WV->HR
 | .c (.one (.loc k off))=>match zh P s f with
  |some (fo,_,sz)=>bif Nat.beq sz 0 then .bad else .ok [] (.c (.one (.loc k (off+fo)))) [] []
  |none=> .bad
 | .c (.one (.el k i f0 w))=>match zh P s f with
  |some (fo,_,sz)=>bif Nat.beq sz 0 then .bad else .ok [] (.c (.one (.el k i (f0+fo) w))) [] []
  |none=> .bad
 | .c (.one (.ip t b x f0))=>match zh P s f with
  |some (fo,_,sz)=>bif Nat.beq sz 0 then .bad else .ok [] (.c (.one (.ip t b x (f0+fo)))) [] []
  |none=> .bad
 |_=> .bad
theorem beq0{n:Nat}(h:Nat.beq n 0=false):n≠0:=λe=>by subst e;simp at h
theorem Dq{s:TypeId}{f:Nat}{x:Operand}{v:WV}:HOk P (.fieldAddr s x f) ty [x] [v] bl (F0 P s f v):=by
 unfold F0;split
 .rename_i k off
  split
  .rename_i fo ft sz h
   cases hz:Nat.beq sz 0 with
   |true=>exact trivial
   |false=>exact λhv _ _ kin hk _=>by rw[qg hk];exact⟨wh h (beq0 hz),⟨trivial,rfl⟩,qo⟩
  .exact trivial
 .rename_i k i f0 w
  split
  .rename_i fo ft sz h
   cases hz:Nat.beq sz 0 with
   |true=>exact trivial
   |false=>
    exact λhv _ _ kin hk _=>by
     rw[qg hk];refine⟨?_,⟨trivial,rfl⟩,qo⟩;show OpOk P _ _ _ _ (.c (.one (.loc k (i*w+(f0+fo))))) _;rw[<-q5r];exact wh h (beq0 hz)
  .exact trivial
 .rename_i t b z f0
  split
  .rename_i fo ft sz h
   cases hz:Nat.beq sz 0 with
   |true=>exact trivial
   |false=>
    exact λhv _ _ kin hk _=>by
     rw[qg hk];refine⟨?_,⟨(hv _ q5f).1,rfl⟩,qo⟩;show OpOk P _ _ _ _ (.c (.one (.ptr ((cellsC t z).drop (f0+fo))))) _;rw[<-q4S];exact HP h (beq0 hz)
  .exact trivial
 .exact trivial
def VO(P:Program)(s:TypeId)(f:Nat):WV->HR:=λ_=> .bad
theorem JR{s:TypeId}{f:Nat}{x:Operand}{v:WV}:HOk P (.field s x f) ty [x] [v] bl (VO P s f v):=trivial
end
end
section
section
variable {P:Program} {bl:Nat->Option WB} {ty:TypeId}
theorem AllP.app{a b:List Prop}(h: ∀p∈a++b,p):(∀p∈a,p)/\(∀p∈b,p):=⟨λp hp=>h p (List.mem_append_left _ hp),λp hp=>h p (List.mem_append_right _ hp)⟩
def asIx(h:Option Nat):WA->Option (IntKind×Int×Nat×List Prop)
 | .kn k (.ofNat n)=>match h with|none=>some (k,.ofNat n,n,[])|some _=>none
 | .dt (.nat k) _ (x:Nat)=>match h with|none=>some (k,(x:Int),x,[])|some _=>none
 | .dt (.int k) _ z=>match h with|some j=>some (k,z,j,[z=(j:Int)])|none=>none
 |_=>none
theorem Bx{h:Option Nat}{a:WA}{k:IntKind}{z:Int}{j:Nat}{vc:List Prop}(e:asIx h a=some (k,z,j,vc)):a.exp=[.val (.int k z)]/\((∀p∈vc,p)->z=(j:Int)):=by
 unfold asIx at e;split at e
 .split at e
  .simp at e;obtain⟨rfl,rfl,rfl,rfl⟩:=e;exact⟨rfl,λ_=>rfl⟩
  .cases e
 .split at e
  .simp only[q61,q62]at e;obtain⟨rfl,rfl,rfl,rfl⟩:=e;exact⟨rfl,λ_=>rfl⟩
  .cases e
 .split at e
  .simp only[q61,q62]at e;obtain⟨rfl,rfl,rfl,rfl⟩:=e;exact⟨rfl,λh=>h _ q5f⟩
  .cases e
 .cases e
def offs(lo:Option Nat)(j:Nat):Nat:=match lo with|none=>j|some l=>l+j
theorem FQ(lo:Option Nat)(j:Nat):offs lo j=lo.getD 0+j:=by cases lo<;>simp[offs]
def F1(P:Program)(t:TypeId)(h:Option Nat):WV->WV->HR
 | .c (.one (.loc k off)),.c (.one (.kn _ (.ofNat n)))=>match P.underlying t with
  |some (.array m e)=>match P.info? e with
   |some ie=>bif Nat.blt n m then .ok [] (.c (.one (.loc k (off+n*ie.size)))) [] []else .bad
   |none=> .bad
  |_=> .bad
 | .c (.one (.el k i fo w)),.c (.one (.kn _ (.ofNat n)))=>match P.underlying t with
  |some (.array m e)=>match P.info? e with
   |some ie=>bif Nat.blt n m then .ok [] (.c (.one (.el k i (fo+n*ie.size) w))) [] []else .bad
   |none=> .bad
  |_=> .bad
 | .c (.one (.ip t' b x fo)),.c (.one (.kn _ (.ofNat n)))=>match P.underlying t with
  |some (.array m e)=>match P.info? e with
   |some ie=>bif Nat.blt n m then .ok [] (.c (.one (.ip t' b x (fo+n*ie.size)))) [] []else .bad
   |none=> .bad
  |_=> .bad
 | .c (.one (.ls k lo n cap w nb)),.c (.one a)=>match asIx h a with
  |some (kk,z,j,vc)=>match jx P t with
   |some es=>bif Nat.beq es w then .ok (vc++[j<n]) (.c (.one (.el k (offs lo j) 0 w))) [] []else .bad
   |none=> .bad
  |none=> .bad
 | .c (.one (.gs k n w nb)),.c (.one a)=>match asIx h a with
  |some (kk,z,j,vc)=>match jx P t with
   |some es=>bif Nat.beq es w then .ok (vc++[j<n]) (.c (.one (.el k j 0 w))) [] []else .bad
   |none=> .bad
  |none=> .bad
 | .c (.one (.so k lo n w nb)),.c (.one a)=>match asIx h a with
  |some (kk,z,j,vc)=>match jx P t with
   |some es=>bif Nat.beq es w then .ok (vc++[j<n]) (.c (.one (.el k (lo+j) 0 w))) [] []else .bad
   |none=> .bad
  |none=> .bad
 | .c (.one (.dt (.sl t') b (l:List t'.den))),.c (.one a)=>match asIx h a with
  |some (kk,z,j,vc)=>match jx P t with
   |some es=>bif Nat.beq es t'.w&&Nat.blt 0 t'.w then .ok (vc++[j<l.length]) (.c (.one (.ip t' b.e (gt t' l j) 0))) [] []else .bad
   |none=> .bad
  |none=> .bad
 | .c (.one (.dt .mag b (x:Nat))),.c (.one a)=>match asIx h a with
  |some (kk,z,j,vc)=>match jx P t with
   |some es=>bif Nat.beq es 1 then .ok (vc++[j<(limbs x).length]) (.c (.one (.ip (.nat .u32) (.n 4294967295) (gt (.nat .u32) (limbs x) j) 0))) [] []else .bad
   |none=> .bad
  |none=> .bad
 |_,_=> .bad
theorem jl{a:WA}{k:IntKind}{z:Int}(h:a.exp=[.val (.int k z)]):(WV.c (.one a)).exp=qb k z:=by
 simp only[WV.exp,WC.exp,h,List.headD_cons]
theorem V0{t':Ty}{l:List t'.den}{j:Nat}{i:Int}(hi:i=(j:Int))(hj:j<l.length)(h0:0<t'.w):LP (flP (jc t' l) l.length) t'.w i (cellsC t' (gt t' l j)):=
 Za hi hj (jJ _ _) (by rw[jF];exact JF t' l j hj) h0
theorem Dr{t:TypeId}{h:Option Nat}{x y:Operand}{p v:WV}:HOk P (.indexAddr t x y) ty [x,y] [p,v] bl (F1 P t h p v):=by
 unfold F1;split
 .rename_i k off kk n
  split
  .rename_i m e hu
   split
   .rename_i ie he
    cases hb:Nat.blt n m with
    |false=>exact trivial
    |true=>
     intro hv _ _ kin hk _;rw[qg hk];have hlt:n<m:=by simpa using hb
     exact⟨wi (i:= .ofNat n) hu he (q4P _) (Int.ofNat_lt.2 hlt),⟨trivial,rfl⟩,qo⟩
   .exact trivial
  .exact trivial
 .rename_i k i fo w kk n
  split
  .rename_i m e hu
   split
   .rename_i ie he
    cases hb:Nat.blt n m with
    |false=>exact trivial
    |true=>
     intro hv _ _ kin hk _;rw[qg hk];have hlt:n<m:=by simpa using hb
     refine⟨?_,⟨trivial,rfl⟩,qo⟩;show OpOk P _ _ _ _ (.c (.one (.loc k (i*w+(fo+n*ie.size))))) _;rw[<-q5r];exact wi (i:= .ofNat n) hu he (q4P _) (Int.ofNat_lt.2 hlt)
   .exact trivial
  .exact trivial
 .rename_i t' b z fo kk n
  split
  .rename_i m e hu
   split
   .rename_i ie he
    cases hb:Nat.blt n m with
    |false=>exact trivial
    |true=>
     intro hv _ _ kin hk _;rw[qg hk];have hlt:n<m:=by simpa using hb
     refine⟨?_,⟨(hv _ q5f).1,rfl⟩,qo⟩;show OpOk P _ _ _ _ (.c (.one (.ptr ((cellsC t' z).drop (fo+n*ie.size))))) _;rw[<-q4S];exact H7 (i:= .ofNat n) hu he (q4P _) (Int.ofNat_lt.2 hlt)
   .exact trivial
  .exact trivial
 .rename_i k lo n cap w nb a
  split
  .rename_i kk z j vc ha
   split
   .rename_i es hes
    cases hb:Nat.beq es w with
    |false=>exact trivial
    |true=>
     have:=q5w hb;subst this
     intro hv _ hvc kin hk _;rw[qg hk];obtain⟨h1,h2⟩:=Bx ha;obtain⟨hvc1,hvc2⟩:=AllP.app hvc;refine⟨?_,⟨trivial,rfl⟩,qo⟩;show OpOk P _ _ [(x,_),(y,(WV.c (.one a)).exp)] _ _ _;rw[jl h1];exact TF hes (h2 hvc1) (hvc2 _ q5f) (by rw[FQ,q5s];rfl)
   .exact trivial
  .exact trivial
 .rename_i k n w nb a
  split
  .rename_i kk z j vc ha
   split
   .rename_i es hes
    cases hb:Nat.beq es w with
    |false=>exact trivial
    |true=>
     have:=q5w hb;subst this
     intro hv _ hvc kin hk _;rw[qg hk];obtain⟨h1,h2⟩:=Bx ha;obtain⟨hvc1,hvc2⟩:=AllP.app hvc;refine⟨?_,⟨trivial,rfl⟩,qo⟩;show OpOk P _ _ [(x,_),(y,(WV.c (.one a)).exp)] _ _ _;rw[jl h1];exact q1n hes (h2 hvc1) (hvc2 _ q5f) rfl
   .exact trivial
  .exact trivial
 .rename_i k lo n w nb a
  split
  .rename_i kk z j vc ha
   split
   .rename_i es hes
    cases hb:Nat.beq es w with
    |false=>exact trivial
    |true=>
     have:=q5w hb;subst this
     intro hv _ hvc kin hk _;rw[qg hk];obtain⟨h1,h2⟩:=Bx ha;obtain⟨hvc1,hvc2⟩:=AllP.app hvc;refine⟨?_,⟨trivial,rfl⟩,qo⟩;show OpOk P _ _ [(x,_),(y,(WV.c (.one a)).exp)] _ _ _;rw[jl h1];exact q1o hes (h2 hvc1) (hvc2 _ q5f) (by rw[q5s];rfl)
   .exact trivial
  .exact trivial
 .rename_i t' b l a
  split
  .rename_i kk z j vc ha
   split
   .rename_i es hes
    cases hb:Nat.beq es t'.w&&Nat.blt 0 t'.w with
    |false=>exact trivial
    |true=>
     simp only[q4L]at hb;have:=q5w hb.1;subst this
     have h0:0<t'.w:=by simpa using hb.2
     intro hv _ hvc kin hk _;rw[qg hk];obtain⟨h1,h2⟩:=Bx ha;obtain⟨hvc1,hvc2⟩:=AllP.app hvc;have hj:j<l.length:=hvc2 _ q5f;have hB:Bnd (.sl t') b l:=(hv _ q5f).1;refine⟨?_,⟨Bnd.gt (Bnd.sl hB).2 hj,rfl⟩,qo⟩;show OpOk P _ _ [(x,_),(y,(WV.c (.one a)).exp)] _ (.c (.one (.ptr ((cellsC t' (gt t' l j)).drop 0)))) _;rw[jl h1,q4U];exact gIdx hes (V0 (h2 hvc1) hj h0)
   .exact trivial
  .exact trivial
 .rename_i b l a
  split
  .rename_i kk z j vc ha
   split
   .rename_i es hes
    cases hb:Nat.beq es 1 with
    |false=>exact trivial
    |true=>
     have:=q5w hb;subst this
     intro hv _ hvc kin hk _;rw[qg hk];obtain⟨h1,h2⟩:=Bx ha;obtain⟨hvc1,hvc2⟩:=AllP.app hvc;have hj:j<(limbs l).length:=hvc2 _ q5f;have hB:Bnd .mag b l:=(hv _ q5f).1;refine⟨?_,⟨Bnd.gt (t:= .nat .u32) (Bnd.sl (Bnd.limbs (Bnd.mag hB))).2 hj,rfl⟩,qo⟩;show OpOk P _ _ [(x,(.c (.one (.abs (natP l))))),(y,(WV.c (.one a)).exp)] _ (.c (.one (.ptr ((cellsC (.nat .u32) (gt (.nat .u32) (limbs l) j)).drop 0)))) _;rw[jl h1,q4U,FN];exact gIdx hes (V0 (t':= .nat .u32) (h2 hvc1) hj (by decide))
   .exact trivial
  .exact trivial
 .exact trivial
theorem FR{t e ty:TypeId}{x y:Operand}{l:List Atom}{m s n:Nat}{g:Bool}{kk:IntKind}{R:AV}(hu:P.underlying t=some (.array m e))(hs:qQ P e=some (g,s))(hn:n<m)
  (h1:g=true->R= .c (.agg ((l.drop (n*s)).take s)))(h2:g=false-> ∃u,R= .c (.one u)/\l[n*s]?=some u):
  OpOk P (.index t x y) ty [(x,.c (.agg l)),(y,qb kk (.ofNat n))] [] R []:=
 qk λa w H β hins _ _=>by
  obtain⟨arr,hx,hsat⟩:=hins _ q5f;have hy:=(hins (y,qb kk (.ofNat n)) (by simp)).1;simp only at hx hy;have hsz:(sizeOf e).run P w= .ok s w:=(zU hs w).2;have hlt:(0:Int)<=Int.ofNat n/\Int.ofNat n<(m:Int):=⟨q4P _,Int.ofNat_lt.2 hn⟩
  have hrun: ∀v,(part e arr (n*s)).run P w= .ok v w-> ∀dst pos after guard,(execOp a.eval ⟨dst,.index t x y,ty,pos,after,guard⟩).run P w= .ok (.value v) w:=by
   intro v hv _ _ _ _;simp only[execOp,hx,hy,Instr.index,asIntOf,q64,q65,q63,qd hu,if_pos hlt,hsz,show(Int.ofNat n).toNat=n from rfl,hv]
  cases g with
  |true=>
   rw[h1 rfl];refine⟨_,⟨_,rfl,?_⟩,hrun _ (G3 hs w)⟩;have:=(hsat.drop (n*s)).take s;rw[Array.toList_extract];simpa using this
  |false=>
   obtain⟨u,hR,hu'⟩:=h2 rfl;rw[hR];obtain⟨v,hv,hs'⟩:=hsat.get (n*s) hu';exact⟨v,hs',hrun _ (G4 hs (by simpa using hv) w)⟩
def VP(P:Program)(t:TypeId):WV->WV->HR:=λ_ _=> .bad
theorem JS{t:TypeId}{x y:Operand}{p v:WV}:HOk P (.index t x y) ty [x,y] [p,v] bl (VP P t p v):=trivial
def I6(i:Nat):WV->HR
 | .tup l=>match l[i]? with
  |some x=> .ok [] (.c x) [] []
  |none=> .bad
 |_=> .bad
theorem Fu{i:Nat}{x:Operand}{v:WV}:HOk P (.extract x i) ty [x] [v] bl (I6 i v):=by
 unfold I6;split
 .rename_i l
  split
  .rename_i z hz
   intro hv _ _ kin hk _;rw[qg hk];refine⟨J2 (by rw[List.getElem?_map,hz];rfl),hv (.tup l) (by simp) z (q5h hz),qo⟩
  .exact trivial
 .exact trivial
def kmax:IntKind->Nat
 | .i8=>127| .i16=>32767| .i32=>2147483647| .i64=>9223372036854775807
 | .u8=>255| .u16=>65535| .u32=>4294967295| .u64=>18446744073709551615
theorem Bh{k:IntKind}{x:Nat}(h:x<=kmax k):k.wrap (x:Int)=(x:Int):=by
 cases k<;>simp[kmax,IntKind.wrap,IntKind.bits,IntKind.signed]at h⊢ <;>omega
theorem Bi{k:IntKind}{z:Int}(hs:k.signed=true)(h:z.natAbs<=kmax k):k.wrap z=z:=by
 cases k<;>simp[kmax,IntKind.wrap,IntKind.bits,IntKind.signed]at h hs⊢ <;>omega
def asN:WA->Option (IntKind×Nat×Nat)
 | .dt (.nat k) b (x:Nat)=>some (k,b.nb,x)
 | .kn k (.ofNat n)=>some (k,n,n)
 |_=>none
def asZ:WA->Option (IntKind×Nat×Int)
 | .dt (.nat k) b (x:Nat)=>some (k,b.nb,(x:Int))
 | .dt (.int k) b z=>some (k,b.nb,z)
 | .kn k z=>some (k,z.natAbs,z)
 |_=>none
theorem jO{a:WA}{k:IntKind}{b n:Nat}(h:asN a=some (k,b,n)):a.exp=[.val (.int k (n:Int))]/\(a.ok->n<=b):=by
 unfold asN at h;split at h
 .simp only[q61,q62]at h;obtain⟨rfl,rfl,rfl⟩:=h;exact⟨rfl,λh=>Bnd.nat h⟩
 .simp only[q61,q62]at h;obtain⟨rfl,rfl,rfl⟩:=h;exact⟨rfl,λ_=>q5B _⟩
 .cases h
theorem vD{a:WA}{k:IntKind}{b:Nat}{z:Int}(h:asZ a=some (k,b,z)):a.exp=[.val (.int k z)]/\(a.ok->z.natAbs<=b):=by
 unfold asZ at h;split at h
 .simp only[q61,q62]at h;obtain⟨rfl,rfl,rfl⟩:=h;exact⟨rfl,λh=>by have:=Bnd.nat h;simpa using this⟩
 .simp only[q61,q62]at h;obtain⟨rfl,rfl,rfl⟩:=h;exact⟨rfl,λh=>Bnd.int h⟩
 .simp only[q61,q62]at h;obtain⟨rfl,rfl,rfl⟩:=h;exact⟨rfl,λ_=>q5B _⟩
 .cases h
def litZ:WA->Option (IntKind×Int)
 | .kn k z=>some (k,z)
 |_=>none
theorem D5{a:WA}{k:IntKind}{z:Int}(h:litZ a=some (k,z)):a.exp=[.val (.int k z)]:=by
 unfold litZ at h;split at h
 .simp only[q61,q62]at h;obtain⟨rfl,rfl⟩:=h;rfl
 .cases h
def vN(k:IntKind)(b n:Nat):WV:= .c (.one (.dt (.nat k) (.n b) n))
def vZ(k:IntKind)(b:Nat)(z:Int):WV:= .c (.one (.dt (.int k) (.n b) z))
def vP(q:Prop)(i:Decidable q):WV:= .c (.one (.pp q i))
theorem VG(q:Prop)(i:Decidable q):(vP q i).exp=vK (@decide q i):=rfl
def wA(op:BinOp)(k:IntKind)(a b e:Int):Prop:=
 match op with
 | .add=>k.wrap (a+b)=e
 | .sub=>k.wrap (a-b)=e
 | .mul=>k.wrap (a*b)=e
 | .quo=>b≠0/\k.wrap (a.tdiv b)=e
 | .rem=>b≠0/\a.tmod b=e
 | .shl=>0<=b/\k.wrap (a*2^(min b.toNat k.bits))=e
 | .shr=>0<=b/\a.fdiv (2^(min b.toNat k.bits))=e
 | .and=>k.wrap ((BitVec.ofInt k.bits a&&&BitVec.ofInt k.bits b).toNat)=e
 | .or=>k.wrap ((BitVec.ofInt k.bits a|||BitVec.ofInt k.bits b).toNat)=e
 |_=>False
def vQ:BinOp->Bool
 | .shl| .shr=>true
 |_=>false
theorem B2{op:BinOp}{t ty yt:TypeId}{x y:Operand}{k k':IntKind}{a b e:Int}(h:wA op k a b e)(hk:(kbeq k k'||vQ op)=true):
  OpOk P (.binOp op t x y yt) ty [(x,qb k a),(y,qb k' b)] [] (qb k e) []:=by
 have hk':vQ op=false->k=k':=λhs=>by rw[hs,Bool.or_false]at hk;exact vy hk
 cases op<;>first|exact h.elim|skip
 case add=>cases hk' rfl;exact NI h
 case sub=>cases hk' rfl;exact J9 h
 case mul=>cases hk' rfl;exact NQ h
 case quo=>cases hk' rfl;exact NV h.1 h.2
 case rem=>cases hk' rfl;exact NW h.1 h.2
 case and=>cases hk' rfl;exact Up h
 case or=>cases hk' rfl;exact Y7 h
 case shl=>exact Uu h.1 h.2
 case shr=>exact Uv h.1 h.2
def RP(op:BinOp)(k:IntKind)(a b:Int):Option Int:=
 match op with
 | .add=>some (k.wrap (a+b))
 | .sub=>some (k.wrap (a-b))
 | .mul=>some (k.wrap (a*b))
 | .quo=>match b with| .ofNat (n+1)=>some (k.wrap (a.tdiv (.ofNat (n+1))))|_=>none
 | .rem=>match b with| .ofNat (n+1)=>some (a.tmod (.ofNat (n+1)))|_=>none
 | .shl=>match b with| .ofNat n=>some (k.wrap (a*2^(min n k.bits)))|_=>none
 | .shr=>match b with| .ofNat n=>some (a.fdiv (2^(min n k.bits)))|_=>none
 |_=>none
theorem RQ{op:BinOp}{k:IntKind}{a b e:Int}(h:RP op k a b=some e):wA op k a b e:=by
 unfold RP at h;split at h<;>try(simp only[q61]at h;exact h)
 .split at h
  .simp only[q61]at h;exact⟨(λe=>by cases e),h⟩
  .cases h
 .split at h
  .simp only[q61]at h;exact⟨(λe=>by cases e),h⟩
  .cases h
 .split at h
  .simp only[q61]at h;exact⟨q4P _,h⟩
  .cases h
 .split at h
  .simp only[q61]at h;exact⟨q4P _,h⟩
  .cases h
 .cases h
def Me(lit:Bool)(n:Nat):List Prop:=bif lit&&Nat.blt 0 n then[]else[0<n]
theorem Jf{lit:Bool}{n:Nat}(h: ∀p∈Me lit n,p):0<n:=by
 unfold Me at h
 cases hb:lit&&Nat.blt 0 n with
 |true=>simp only[q4L]at hb;simpa using hb.2
 |false=>rw[hb]at h;exact h _ q5f
def D0:WA->Bool
 | .kn _ _=>true
 |_=>false
def RY(op:BinOp)(k:IntKind)(b1 n1 b2 n2:Nat)(lit:Bool):Option (Nat×Nat×List Prop):=
 match op with
 | .add=>bif Nat.ble (b1+b2) (kmax k)then some (b1+b2,n1+n2,[])else none
 | .mul=>bif Nat.ble (b1*b2) (kmax k)then some (b1*b2,n1*n2,[])else none
 | .quo=>bif Nat.ble b1 (kmax k)then some (b1,n1/n2,Me lit n2)else none
 | .rem=>bif Nat.ble b1 (kmax k)then some (bif lit then n2-1 else b2,n1%n2,Me lit n2)else none
 | .shl=>bif lit&&Nat.ble n2 (k.bits)&&Nat.ble (b1*2^n2) (kmax k)then some (b1*2^n2,n1*2^n2,[])else none
 | .shr=>bif lit&&Nat.ble n2 (k.bits)then some (b1/2^n2,n1/2^n2,[])else none
 |_=>none
theorem RZ{op:BinOp}{k:IntKind}{b1 n1 b2 n2 b n:Nat}{lit:Bool}{vc:List Prop}(h:RY op k b1 n1 b2 n2 lit=some (b,n,vc))(h1:n1<=b1)(h2:n2<=b2)(hvc: ∀p∈vc,p):
  wA op k (n1:Int) (n2:Int) (n:Int)/\n<=b:=by
 unfold RY at h;split at h
 .cases hb:Nat.ble (b1+b2) (kmax k)with
  |false=>rw[hb]at h;cases h
  |true=>
   rw[hb]at h;simp only[cond_true,q61,q62]at h;obtain⟨rfl,rfl,rfl⟩:=h
   have:=q5y hb;refine⟨?_,by omega⟩;show k.wrap ((n1:Int)+(n2:Int))=_;rw[<-Int.natCast_add];exact Bh (by omega)
 .cases hb:Nat.ble (b1*b2) (kmax k)with
  |false=>rw[hb]at h;cases h
  |true=>
   rw[hb]at h;simp only[cond_true,q61,q62]at h;obtain⟨rfl,rfl,rfl⟩:=h
   have h3:=q5y hb;have h4:=q5N h1 h2;refine⟨?_,h4⟩;show k.wrap ((n1:Int)*(n2:Int))=_;rw[<-q4O];exact Bh (by omega)
 .cases hb:Nat.ble b1 (kmax k)with
  |false=>rw[hb]at h;cases h
  |true=>
   rw[hb]at h;simp only[cond_true,q61,q62]at h;obtain⟨rfl,rfl,rfl⟩:=h
   have h3:=q5y hb;have h4:=Jf hvc;have h5:=q5u n1 n2;refine⟨⟨by omega,?_⟩,by omega⟩;rw[show(n1:Int).tdiv (n2:Int)=((n1/n2:Nat):Int)from(Int.ofNat_tdiv n1 n2).symm];exact Bh (by omega)
 .cases hb:Nat.ble b1 (kmax k)with
  |false=>rw[hb]at h;cases h
  |true=>
   rw[hb]at h;simp only[cond_true,q61,q62]at h;obtain⟨rfl,rfl,rfl⟩:=h
   have h4:=Jf hvc;have h5:=q5I n1 h4;refine⟨⟨by omega,remN n1 n2⟩,?_⟩;cases lit
   .show n1%n2<=b2;omega
   .show n1%n2<=n2-1;omega
 .cases hb:lit&&Nat.ble n2 (k.bits)&&Nat.ble (b1*2^n2) (kmax k)with
  |false=>rw[hb]at h;cases h
  |true=>
   rw[hb]at h;simp only[cond_true,q61,q62]at h;obtain⟨rfl,rfl,rfl⟩:=h
   simp only[q4L]at hb;have h3:=q5y hb.1.2;have h4:=q5y hb.2;have h5:n1*2^n2<=b1*2^n2:=q5O _ h1;refine⟨⟨by omega,?_⟩,h5⟩;rw[show((n2:Int).toNat)=n2 from q4Q _,q5G h3];have:((n1:Int)*2^n2)=((n1*2^n2:Nat):Int):=by rw[q4O,Int.natCast_pow];rfl
   rw[this];exact Bh (by omega)
 .cases hb:lit&&Nat.ble n2 (k.bits)with
  |false=>rw[hb]at h;cases h
  |true=>
   rw[hb]at h;simp only[cond_true,q61,q62]at h;obtain⟨rfl,rfl,rfl⟩:=h
   simp only[q4L]at hb;exact⟨⟨by omega,shrN n1 n2 (q5y hb.2)⟩,Nat.div_le_div_right h1⟩
 .cases h
def M5(op:BinOp)(k:IntKind)(b1:Nat)(z1:Int)(b2:Nat)(z2:Int)(lit:Bool):Option (Nat×Int×List Prop):=
 match op with
 | .add=>bif k.signed&&Nat.ble (b1+b2) (kmax k)then some (b1+b2,z1+z2,[])else none
 | .sub=>bif k.signed&&Nat.ble (b1+b2) (kmax k)then some (b1+b2,z1-z2,[])else none
 | .mul=>bif k.signed&&Nat.ble (b1*b2) (kmax k)then some (b1*b2,z1*z2,[])else none
 | .quo=>bif k.signed&&Nat.ble b1 (kmax k)then some (b1,z1.tdiv z2,[z2≠0])else none
 | .rem=>bif k.signed then some (b2,z1.tmod z2,[z2≠0])else none
 |_=>none
theorem IL{op:BinOp}{k:IntKind}{b1 b2 b:Nat}{z1 z2 z:Int}{lit:Bool}{vc:List Prop}(h:M5 op k b1 z1 b2 z2 lit=some (b,z,vc))(h1:z1.natAbs<=b1)(h2:z2.natAbs<=b2)(hvc: ∀p∈vc,p):
  wA op k z1 z2 z/\z.natAbs<=b:=by
 unfold M5 at h;split at h
 .cases hb:k.signed&&Nat.ble (b1+b2) (kmax k)with
  |false=>rw[hb]at h;cases h
  |true=>
   rw[hb]at h;simp only[cond_true,q61,q62]at h;obtain⟨rfl,rfl,rfl⟩:=h
   simp only[q4L]at hb;have h3:=q5y hb.2;have h4:(z1+z2).natAbs<=b1+b2:=by omega
   exact⟨Bi hb.1 (by omega),h4⟩
 .cases hb:k.signed&&Nat.ble (b1+b2) (kmax k)with
  |false=>rw[hb]at h;cases h
  |true=>
   rw[hb]at h;simp only[cond_true,q61,q62]at h;obtain⟨rfl,rfl,rfl⟩:=h
   simp only[q4L]at hb;have h3:=q5y hb.2;have h4:(z1-z2).natAbs<=b1+b2:=by omega
   exact⟨Bi hb.1 (by omega),h4⟩
 .cases hb:k.signed&&Nat.ble (b1*b2) (kmax k)with
  |false=>rw[hb]at h;cases h
  |true=>
   rw[hb]at h;simp only[cond_true,q61,q62]at h;obtain⟨rfl,rfl,rfl⟩:=h
   simp only[q4L]at hb;have h3:=q5y hb.2;have h4:(z1*z2).natAbs<=b1*b2:=by rw[Int.natAbs_mul];exact q5N h1 h2
   exact⟨Bi hb.1 (by omega),h4⟩
 .cases hb:k.signed&&Nat.ble b1 (kmax k)with
  |false=>rw[hb]at h;cases h
  |true=>
   rw[hb]at h;simp only[cond_true,q61,q62]at h;obtain⟨rfl,rfl,rfl⟩:=h
   simp only[q4L]at hb;have h3:=q5y hb.2;have h4:(z1.tdiv z2).natAbs<=b1:=by rw[Int.natAbs_tdiv];exact q5C (q5u _ _) h1
   exact⟨⟨hvc _ q5f,Bi hb.1 (by omega)⟩,h4⟩
 .cases hb:k.signed with
  |false=>rw[hb]at h;cases h
  |true=>
   rw[hb]at h;simp only[cond_true,q61,q62]at h;obtain⟨rfl,rfl,rfl⟩:=h
   have hz:z2≠0:=hvc _ q5f;refine⟨⟨hz,rfl⟩,?_⟩;rw[Int.natAbs_tmod];exact q5C (q5z (q5I _ (Int.natAbs_pos.2 hz))) h2
 .cases h
def wC:BinOp->Bool
 | .eql| .neq| .lss| .leq| .gtr| .geq=>true
 |_=>false
def Co(op:BinOp)(a b:Int):Bool:=
 match op with
 | .eql=>decide (a=b)
 | .neq=>!decide (a=b)
 | .lss=>decide (a<b)
 | .leq=>decide (a<=b)
 | .gtr=>decide (b<a)
 | .geq=>decide (b<=a)
 |_=>false
theorem Fj{op:BinOp}{t ty yt:TypeId}{x y:Operand}{k:IntKind}{a b:Int}(h:wC op=true):OpOk P (.binOp op t x y yt) ty [(x,qb k a),(y,qb k b)] [] (vK (Co op a b)) []:=by
 cases op<;>simp only[wC,q4M]at h
 case eql=>exact NJ (by simp[Co,BEq.beq])
 case neq=>exact NS (by simp[Co,bne,BEq.beq])
 case lss=>exact NP rfl
 case leq=>exact NO rfl
 case gtr=>exact NN rfl
 case geq=>exact NM rfl
def Ml(op:BinOp)(a b:Nat):WV:=
 match op with
 | .eql=>vP (a=b) inferInstance
 | .neq=>vP (a≠b) inferInstance
 | .lss=>vP (a<b) inferInstance
 | .leq=>vP (a<=b) inferInstance
 | .gtr=>vP (b<a) inferInstance
 |_=>vP (b<=a) inferInstance
def Mm(op:BinOp)(a b:Int):WV:=
 match op with
 | .eql=>vP (a=b) inferInstance
 | .neq=>vP (a≠b) inferInstance
 | .lss=>vP (a<b) inferInstance
 | .leq=>vP (a<=b) inferInstance
 | .gtr=>vP (b<a) inferInstance
 |_=>vP (b<=a) inferInstance
theorem YU{op:BinOp}{t ty yt:TypeId}{x y:Operand}{k:IntKind}{a b:Int}(h:wC op=true):OpOk P (.binOp op t x y yt) ty [(x,qb k a),(y,qb k b)] [] (Mm op a b).exp []/\(Mm op a b).ok:=by
 have hc:=Fj (P:=P) (t:=t) (ty:=ty) (yt:=yt) (x:=x) (y:=y) (k:=k) (a:=a) (b:=b) h;cases op<;>simp only[wC,q4M]at h<;>refine⟨?_,trivial,rfl⟩<;>simp only[Mm,VG]<;>simp only[Co]at hc
 all_goals first|exact hc|(rw[show decide (a≠b)=!decide (a=b) by simp];exact hc)
theorem XG{op:BinOp}{t ty yt:TypeId}{x y:Operand}{k:IntKind}{a b:Nat}(h:wC op=true):OpOk P (.binOp op t x y yt) ty [(x,qb k (a:Int)),(y,qb k (b:Int))] [] (Ml op a b).exp []/\(Ml op a b).ok:=by
 have hc:=Fj (P:=P) (t:=t) (ty:=ty) (yt:=yt) (x:=x) (y:=y) (k:=k) (a:=(a:Int)) (b:=(b:Int)) h;cases op<;>simp only[wC,q4M]at h<;>refine⟨?_,trivial,rfl⟩<;>simp only[Ml,VG]<;>simp only[Co]at hc
 .rw[show decide (a=b)=decide ((a:Int)=(b:Int)) by rw[Bool.eq_iff_iff];simp;omega];exact hc
 .rw[show decide (a≠b)=!decide ((a:Int)=(b:Int)) by rw[Bool.eq_iff_iff];simp;omega];exact hc
 .rw[show decide (a<b)=decide ((a:Int)<(b:Int)) by rw[Bool.eq_iff_iff];simp];exact hc
 .rw[show decide (a<=b)=decide ((a:Int)<=(b:Int)) by rw[Bool.eq_iff_iff];simp];exact hc
 .rw[show decide (b<a)=decide ((b:Int)<(a:Int)) by rw[Bool.eq_iff_iff];simp];exact hc
 .rw[show decide (b<=a)=decide ((b:Int)<=(a:Int)) by rw[Bool.eq_iff_iff];simp];exact hc
inductive IH where
 |no
 |sub
 |n (e b:Nat)
 |z (e:Int) (b:Nat)
def toB:WA->Option Bool
 | .pp q i=>some (@decide q i)
 | .dt .bool _ b=>some b
 | .vl (.bool b)=>some b
 |_=>none
theorem I1{a:WA}{b:Bool}(h:toB a=some b):a.exp=[.val (.bool b)]:=by
 unfold toB at h;split at h
 .simp only[q61]at h;subst h;rfl
 .simp only[q61]at h;subst h;rfl
 .simp only[q61]at h;subst h;rfl
 .cases h
def Gy(P:Program)(t:TypeId):Bool:=match P.underlying t with|some .bool=>true|_=>false
theorem Nm{t:TypeId}(h:Gy P t=true):P.underlying t=some .bool:=by
 unfold Gy at h;split at h
 .assumption
 .cases h
def SJ (op : BinOp) (a b : WA) : HR :=
 match litZ a, litZ b with
 | some (k, z1), some (k', z2) => bif kbeq k k' || vQ op then
   (bif wC op then .ok [] (.c (.one (.vl (.bool (Co op z1 z2))))) [] [] else match RP op k z1 z2 with | some e => .ok [] (.c (.one (.kn k e))) [] [] | none => .bad) else .bad
 | _, _ =>
  match asN a, asN b with
  | some (k, b1, n1), some (k', b2, n2) => bif kbeq k k' || vQ op then
    (bif wC op then .ok [] (Ml op n1 n2) [] [] else match RY op k b1 n1 b2 n2 (D0 b) with
     | some (bb, n, vc) => .ok vc (vN k bb n) [] []
     | none => match M5 op k b1 n1 b2 n2 (D0 b) with
      | some (bb, z, vc) => .ok vc (vZ k bb z) [] []
      | none => .bad) else .bad
  | _, _ => match asZ a, asZ b with
   | some (k, b1, z1), some (k', b2, z2) => bif kbeq k k' then
    (bif wC op then .ok [] (Mm op z1 z2) [] [] else match M5 op k b1 z1 b2 z2 (D0 b) with
      | some (bb, z, vc) => .ok vc (vZ k bb z) [] []
      | none => .bad) else .bad
   | _, _ => .bad
def SK(op:BinOp)(h:IH)(a b:WA):HR:=
 match h with
 | .no=>SJ op a b
 | .sub=>match op,asN a,asN b with
  | .sub,some (k,b1,n1),some (k',b2,n2)=>bif kbeq k k'&&Nat.ble b1 (kmax k)then .ok [n2<=n1] (vN k b1 (n1-n2)) [] []else .bad
  |_,_,_=> .bad
 | .n e bd=>match asZ a,asZ b with
  |some (k,_,z1),some (k',_,z2)=>bif kbeq k k'||vQ op then .ok [wA op k z1 z2 e,e<=bd] (vN k bd e) [] []else .bad
  |_,_=> .bad
 | .z e bd=>match asZ a,asZ b with
  |some (k,_,z1),some (k',_,z2)=>bif kbeq k k'||vQ op then .ok [wA op k z1 z2 e,e.natAbs<=bd] (vZ k bd e) [] []else .bad
  |_,_=> .bad
def nilQ:WA->Option Prop
 | .dt (.sl _) _ l=>some (l=[])
 |_=>none
theorem Ty.w_pos': ∀t:Ty,0<t.w
 | .nat _| .int _| .bool| .str| .mag| .sl _| .fn _| .pt _| .cl _ _=>Nat.succ_pos 0
 | .rat=>Nat.succ_pos 2
 | .pr a b=>q5E (Ty.w_pos' a) (Nat.le_add_right _ _)
 | .st t=>Ty.w_pos' t
theorem Zd{t yt:TypeId}{x y:Operand}{A:Pred}{C:Prop}(ht:jB P t=true)(hA: ∀H v,A.p H v-> ∃p n c,v= .slice p n c/\(p.isNone=true->C)):
  OpOk P (.binOp .eql t x y yt) ty [(x,.c (.one (.abs A))),(y,.c (.one (.val (.slice none 0 0))))] [] (.c (.one (.abs (bqP C)))) []:=
 qk λa w H β hins _ _=>by
  obtain⟨p,n,c,hx,hp⟩:=hA H _ (hins _ q5f);have hy:=(hins (y,.c (.one (.val (.slice none 0 0)))) (by simp)).1;simp only at hx hy;refine⟨.bool p.isNone,⟨_,rfl,hp⟩,λ_ _ _ _=>?_⟩;unfold jB at ht;split at ht
  .rename_i e he
   have heq:(Op.equal t (.slice p n c) (.slice none 0 0)).run P w= .ok p.isNone w:=Jo he p n c w 9999;simp only[execOp,hx,hy]
   have hb:(do eqGuard .eql t x y (.slice p n c) (.slice none 0 0);binOp .eql t (.slice p n c) (.slice none 0 0):Sem Value).run P w= .ok (.bool p.isNone) w:=by
    show(do eqGuard .eql t x y (.slice p n c) (.slice none 0 0);pure (Value.bool (<-Op.equal t (.slice p n c) (.slice none 0 0))):Sem Value).run P w=_;simp[eqGuard,heq]
   simp only[q64]at hb⊢;rw[hb];rfl
  .cases ht
theorem Uk{a:WA}{C:Prop}(h:nilQ a=some C): ∃A,a.exp=[.abs A]/\ ∀H v,A.p H v-> ∃p n c,v= .slice p n c/\(p.isNone=true->C):=by
 unfold nilQ at h;split at h
 .rename_i t b l
  simp only[q61]at h;subst h;refine⟨_,rfl,?_⟩
  rintro H v ⟨p,c,rfl,_,hh⟩
  refine⟨p,_,c,rfl,λhn=>?_⟩;rcases hh with hh|⟨b,off,arr,h1,_⟩
  .have h1:=congrArg List.length hh
   rw[show(List.flatMap (cellsC t) l)=jc t l from rfl,jJ]at h1;have h2:=Ty.w_pos' t
   have h3:l.length=0:=by
    rcases Nat.mul_eq_zero.1 h1 with h|h
    .exact h
    .omega
   exact List.length_eq_zero_iff.1 h3
  .subst h1;cases hn
 .cases h
def wBin(P:Program)(op:BinOp)(t:TypeId)(h:IH):WV->WV->HR
 | .c (.one a),.c (.one b)=>match toB a,toB b with
  |some p,some q=>bif Gy P t then(match op with
    | .eql=> .ok [] (vP (p=q) inferInstance) [] []
    | .neq=> .ok [] (vP (p≠q) inferInstance) [] []
    |_=> .bad)else .bad
  |_,_=>match op,nilQ a,vX b with
   | .eql,some C,true=>bif jB P t then .ok [] (.c (.one (.bq C))) [] []else .bad
   |_,_,_=>SK op h a b
 |_,_=> .bad
theorem Aa{op:BinOp}{t yt:TypeId}{x y:Operand}{a b:WA}{k k':IntKind}{z1 z2:Int}{R:WV}(h1:a.exp=[.val (.int k z1)])(h2:b.exp=[.val (.int k' z2)])(h:OpOk P (.binOp op t x y yt) ty [(x,qb k z1),(y,qb k' z2)] [] R.exp []):
  OpOk P (.binOp op t x y yt) ty (List.zip [x,y] ([WV.c (.one a),.c (.one b)].map WV.exp)) (kinE []) R.exp (LwE []):=by
 show OpOk P _ _ [(x,(WV.c (.one a)).exp),(y,(WV.c (.one b)).exp)] [] _ [];rw[jl h1,jl h2];exact h
theorem q02{op:Op}{x y:Operand}{a b:WA}{k k':IntKind}{z1 z2:Int}{R:WV}(h1:a.exp=[.val (.int k z1)])(h2:b.exp=[.val (.int k' z2)])(h:OpOk P op ty [(x,qb k z1),(y,qb k' z2)] [] R.exp []):
  OpOk P op ty (List.zip [x,y] ([WV.c (.one a),.c (.one b)].map WV.exp)) (kinE []) R.exp (LwE []):=by
 show OpOk P _ _ [(x,(WV.c (.one a)).exp),(y,(WV.c (.one b)).exp)] [] _ [];rw[jl h1,jl h2];exact h
theorem q1q{op:BinOp}{t yt:TypeId}{x y:Operand}{a b:WA}:HOk P (.binOp op t x y yt) ty [x,y] [.c (.one a),.c (.one b)] bl (SJ op a b):=by
 unfold SJ;split
 .rename_i k z1 k' z2 h1 h2
  have e1:=D5 h1;have e2:=D5 h2
  cases hk:kbeq k k'||vQ op with
  |false=>exact trivial
  |true=>
   simp only[cond_true]
   cases hc:wC op with
   |true=>
    intro hv _ _ kin hkk _;rw[qg hkk];have:vQ op=false:=by cases op<;>simp_all [wC,vQ]
    rw[this,Bool.or_false]at hk;cases vy hk;refine⟨Aa e1 e2 (R:= .c (.one (.vl (.bool (Co op z1 z2))))) (Fj hc),⟨rfl,rfl⟩,qo⟩
   |false=>
    simp only[cond_false];split
    .rename_i e he
     intro hv _ _ kin hkk _;rw[qg hkk];exact⟨Aa e1 e2 (R:= .c (.one (.kn k e))) (B2 (RQ he) hk),⟨trivial,rfl⟩,qo⟩
    .exact trivial
 .split
  .rename_i k b1 n1 k' b2 n2 h1 h2
   obtain⟨e1,o1⟩:=jO h1;obtain⟨e2,o2⟩:=jO h2
   cases hk:kbeq k k'||vQ op with
   |false=>exact trivial
   |true=>
    simp only[cond_true]
    cases hc:wC op with
    |true=>
     intro hv _ _ kin hkk _;rw[qg hkk];have:vQ op=false:=by cases op<;>simp_all [wC,vQ]
     rw[this,Bool.or_false]at hk;cases vy hk;have:=XG (P:=P) (t:=t) (ty:=ty) (yt:=yt) (x:=x) (y:=y) (k:=k) (a:=n1) (b:=n2) hc;exact⟨Aa e1 e2 this.1,this.2,qo⟩
    |false=>
     simp only[cond_false];split
     .rename_i bb n vc he
      intro hv _ hvc kin hkk _;rw[qg hkk];obtain⟨q1,q2⟩:=RZ he (o1 (hv _ q5f).1) (o2 (hv (.c (.one b)) (by simp)).1) hvc;exact⟨Aa e1 e2 (R:=vN k bb n) (B2 q1 hk),⟨q2,rfl⟩,qo⟩
     .split
      .rename_i bb n vc he
       intro hv _ hvc kin hkk _;rw[qg hkk];obtain⟨q1,q2⟩:=IL he (by have:=o1 (hv _ q5f).1;simpa using this) (by have:=o2 (hv (.c (.one b)) (by simp)).1;simpa using this) hvc;exact⟨Aa e1 e2 (R:=vZ k bb n) (B2 q1 hk),⟨q2,rfl⟩,qo⟩
      .exact trivial
  .split
   .rename_i k b1 z1 k' b2 z2 h1 h2
    obtain⟨e1,o1⟩:=vD h1;obtain⟨e2,o2⟩:=vD h2
    cases hk:kbeq k k' with
    |false=>exact trivial
    |true=>
     cases vy hk;simp only[cond_true]
     cases hc:wC op with
     |true=>
      intro hv _ _ kin hkk _;rw[qg hkk];have:=YU (P:=P) (t:=t) (ty:=ty) (yt:=yt) (x:=x) (y:=y) (k:=k) (a:=z1) (b:=z2) hc;exact⟨Aa e1 e2 this.1,this.2,qo⟩
     |false=>
      simp only[cond_false];split
      .rename_i bb n vc he
       intro hv _ hvc kin hkk _;rw[qg hkk];obtain⟨q1,q2⟩:=IL he (o1 (hv _ q5f).1) (o2 (hv (.c (.one b)) (by simp)).1) hvc;exact⟨Aa e1 e2 (R:=vZ k bb n) (B2 q1 (by rw[hk];rfl)),⟨q2,rfl⟩,qo⟩
      .exact trivial
   .exact trivial
theorem q1r{op:BinOp}{t yt:TypeId}{x y:Operand}{h:IH}{a b:WA}:HOk P (.binOp op t x y yt) ty [x,y] [.c (.one a),.c (.one b)] bl (SK op h a b):=by
 unfold SK;split
 .exact q1q
 .split
  .rename_i k b1 n1 k' b2 n2 h1 h2
   obtain⟨e1,o1⟩:=jO h1;obtain⟨e2,o2⟩:=jO h2
   cases hk:kbeq k k'&&Nat.ble b1 (kmax k)with
   |false=>exact trivial
   |true=>
    simp only[q4L]at hk;cases vy hk.1;intro hv _ hvc kin hkk _;rw[qg hkk];have h3:n2<=n1:=hvc _ q5f;have h4:=o1 (hv _ q5f).1;have h5:=q5y hk.2;refine⟨Aa e1 e2 (R:=vN k b1 (n1-n2)) (J9 ?_),⟨show n1-n2<=b1 by omega,rfl⟩,qo⟩;rw[<-Int.natCast_sub h3];exact Bh (by omega)
  .exact trivial
 .split
  .rename_i k b1 z1 k' b2 z2 h1 h2
   obtain⟨e1,o1⟩:=vD h1;obtain⟨e2,o2⟩:=vD h2
   cases hk:kbeq k k'||vQ op with
   |false=>exact trivial
   |true=>
    intro hv _ hvc kin hkk _;rw[qg hkk];exact⟨Aa e1 e2 (R:=vN k _ _) (B2 (hvc _ q5f) hk),⟨hvc (_<=_) (q5e _ q5f),rfl⟩,qo⟩
  .exact trivial
 .split
  .rename_i k b1 z1 k' b2 z2 h1 h2
   obtain⟨e1,o1⟩:=vD h1;obtain⟨e2,o2⟩:=vD h2
   cases hk:kbeq k k'||vQ op with
   |false=>exact trivial
   |true=>
    intro hv _ hvc kin hkk _;rw[qg hkk];exact⟨Aa e1 e2 (R:=vZ k _ _) (B2 (hvc _ q5f) hk),⟨hvc (_<=_) (q5e _ q5f),rfl⟩,qo⟩
  .exact trivial
theorem Es{a:WA}{b:Bool}(h:a.exp=[.val (.bool b)]):(WV.c (.one a)).exp=vK b:=by
 simp only[WV.exp,WC.exp,h,List.headD_cons]
theorem Rw{op:BinOp}{t yt:TypeId}{x y:Operand}{h:IH}{p v:WV}:HOk P (.binOp op t x y yt) ty [x,y] [p,v] bl (wBin P op t h p v):=by
 unfold wBin;split
 .rename_i a b
  split
  .rename_i p q h1 h2
   have e1:=I1 h1;have e2:=I1 h2
   cases ht:Gy P t with
   |false=>exact trivial
   |true=>
    have ht:=Nm ht;simp only[cond_true];split
    .intro hv _ _ kin hkk _
     rw[qg hkk];refine⟨?_,⟨trivial,rfl⟩,qo⟩;show OpOk P _ _ [(x,(WV.c (.one a)).exp),(y,(WV.c (.one b)).exp)] [] (vK _) [];rw[Es e1,Es e2];exact Us ht (by rw[Bool.eq_iff_iff];simp)
    .intro hv _ _ kin hkk _
     rw[qg hkk];refine⟨?_,⟨trivial,rfl⟩,qo⟩;show OpOk P _ _ [(x,(WV.c (.one a)).exp),(y,(WV.c (.one b)).exp)] [] (vK _) [];rw[Es e1,Es e2];exact Ut ht (by rw[Bool.eq_iff_iff];simp)
    .exact trivial
  .split
   .rename_i C hq hn
    have hn:=zZ hn;subst hn;obtain⟨A,hA,hC⟩:=Uk hq
    cases ht:jB P t with
    |false=>exact trivial
    |true=>
     intro hv _ _ kin hkk _;rw[qg hkk];refine⟨?_,⟨trivial,rfl⟩,qo⟩
     have e1:(WV.c (.one a)).exp= .c (.one (.abs A)):=by
      show AV.c (.one (a.exp.headD _))=_;rw[hA];rfl
     show OpOk P _ _ [(x,(WV.c (.one a)).exp),(y,.c (.one (.val (.slice none 0 0))))] [] _ [];rw[e1];exact Zd ht hC
   .exact q1r
 .exact trivial
def wUn(op:UnOp):WV->HR
 | .c (.one a)=>match op with
  | .not=>match a with
   | .pp q i=> .ok [] (vP (¬q) (@instDecidableNot q i)) [] []
   | .vl (.bool b)=> .ok [] (.c (.one (.vl (.bool (!b))))) [] []
   | .dt .bool _ b=> .ok [] (.c (.one (.dt .bool .u (!b)))) [] []
   |_=> .bad
  | .neg=>match litZ a with
   |some (k,z)=> .ok [] (.c (.one (.kn k (k.wrap (0-z))))) [] []
   |none=>match asZ a with
    |some (k,b,z)=>bif k.signed&&Nat.ble b (kmax k)then .ok [] (vZ k b (-z)) [] []else .bad
    |none=> .bad
  |_=> .bad
 |_=> .bad
theorem h_un{op:UnOp}{t:TypeId}{x:Operand}{v:WV}:HOk P (.unOp op t x) ty [x] [v] bl (wUn op v):=by
 unfold wUn;split
 .rename_i a
  split
  .split
   .rename_i q i
    intro hv _ _ kin hkk _;rw[qg hkk];refine⟨?_,⟨trivial,rfl⟩,qo⟩;exact J8 (by rw[Bool.eq_iff_iff];simp)
   .intro hv _ _ kin hkk _
    rw[qg hkk];exact⟨J8 rfl,⟨rfl,rfl⟩,qo⟩
   .intro hv _ _ kin hkk _
    rw[qg hkk];exact⟨J8 rfl,⟨trivial,rfl⟩,qo⟩
   .exact trivial
  .split
   .rename_i k z h1
    intro hv _ _ kin hkk _;rw[qg hkk];refine⟨?_,⟨trivial,rfl⟩,qo⟩;show OpOk P _ _ [(x,(WV.c (.one a)).exp)] [] (qb k _) [];rw[jl (D5 h1)];exact NR rfl
   .split
    .rename_i k b z h1
     obtain⟨e1,o1⟩:=vD h1
     cases hk:k.signed&&Nat.ble b (kmax k)with
     |false=>exact trivial
     |true=>
      simp only[q4L]at hk;intro hv _ _ kin hkk _;rw[qg hkk];have h4:=o1 (hv _ q5f).1;have h5:=q5y hk.2;have h6:(-z).natAbs<=b:=by omega
      refine⟨?_,⟨h6,rfl⟩,qo⟩;show OpOk P _ _ [(x,(WV.c (.one a)).exp)] [] (qb k _) [];rw[jl e1];exact NR (by rw[show(0:Int) -z= -z by omega];exact Bi hk.1 (by omega))
    .exact trivial
  .exact trivial
 .exact trivial
def SM(P:Program)(src dst:TypeId)(h:IH):WV->HR
 | .c (.one a)=>match intK P dst with
  |some k=>bif (P.underlying src).isSome then(match h with
   | .n e bd=>match asZ a with
    |some (_,_,z)=> .ok [k.wrap z=(e:Int),e<=bd] (vN k bd e) [] []
    |none=> .bad
   | .z e bd=>match asZ a with
    |some (_,_,z)=> .ok [k.wrap z=e,e.natAbs<=bd] (vZ k bd e) [] []
    |none=> .bad
   |_=>match litZ a with
    |some (_,z)=> .ok [] (.c (.one (.kn k (k.wrap z)))) [] []
    |none=>match asN a with
     |some (_,b,n)=>bif Nat.ble b (kmax k)then .ok [] (vN k b n) [] []else bif k.signed then .bad else .ok [] (vN k (kmax k) (n%(kmax k+1))) [] []
     |none=>match asZ a with
      |some (_,b,z)=>bif k.signed&&Nat.ble b (kmax k)then .ok [] (vZ k b z) [] []else .bad
      |none=> .bad)else .bad
  |none=> .bad
 |_=> .bad
theorem TU{t:TypeId}{k:IntKind}(h:intK P t=some k):P.underlying t=some (.int k):=by
 unfold intK at h;split at h
 .rename_i h1;simp at h;subst h;exact h1
 .cases h
theorem XI{k:IntKind}(hs:k.signed=false)(n:Nat):k.wrap (n:Int)=((n%(kmax k+1):Nat):Int):=by
 cases k<;>simp[kmax,IntKind.wrap,IntKind.bits,IntKind.signed]at hs⊢
theorem B5{src dst:TypeId}{x:Operand}{a:WA}{k k':IntKind}{z r:Int}{R:WV}(hd:intK P dst=some k)(hs:(P.underlying src).isSome=true)(ha:a.exp=[.val (.int k' z)])(hr:k.wrap z=r)(hR:R.exp=qb k r):
  OpOk P (.convert src dst x) ty (List.zip [x] ([WV.c (.one a)].map WV.exp)) (kinE []) R.exp (LwE []):=by
 obtain⟨d,hd'⟩:=Option.isSome_iff_exists.1 hs;show OpOk P _ _ [(x,(WV.c (.one a)).exp)] [] _ [];rw[jl ha,hR];exact Qg hd' (TU hd) hr
theorem Nd{src dst:TypeId}{h:IH}{x:Operand}{v:WV}:HOk P (.convert src dst x) ty [x] [v] bl (SM P src dst h v):=by
 unfold SM;split
 .rename_i a
  split
  .rename_i k hd
   cases hs:(P.underlying src).isSome with
   |false=>exact trivial
   |true=>
    simp only[cond_true];split
    .split
     .rename_i k' b z hz
      intro hv _ hvc kin hkk _;rw[qg hkk];exact⟨B5 hd hs (vD hz).1 (hvc _ q5f) rfl,⟨hvc (_<=_) (q5e _ q5f),rfl⟩,qo⟩
     .exact trivial
    .split
     .rename_i k' b z hz
      intro hv _ hvc kin hkk _;rw[qg hkk];exact⟨B5 hd hs (vD hz).1 (hvc _ q5f) rfl,⟨hvc (_<=_) (q5e _ q5f),rfl⟩,qo⟩
     .exact trivial
    .split
     .rename_i k' z hz
      intro hv _ hvc kin hkk _;rw[qg hkk];exact⟨B5 hd hs (D5 hz) rfl rfl,⟨trivial,rfl⟩,qo⟩
     .split
      .rename_i k' b n hn
       obtain⟨e1,o1⟩:=jO hn
       cases hb:Nat.ble b (kmax k)with
       |true=>
        intro hv _ hvc kin hkk _;rw[qg hkk];have h1:=o1 (hv _ q5f).1;exact⟨B5 hd hs e1 (Bh (q5C h1 (q5y hb))) (R:=vN k b n) rfl,⟨h1,rfl⟩,qo⟩
       |false=>
        simp only[cond_false]
        cases hsg:k.signed with
        |true=>exact trivial
        |false=>
         intro hv _ hvc kin hkk _;rw[qg hkk];exact⟨B5 hd hs e1 (XI hsg n) (R:=vN k _ _) rfl,⟨q5A (q5I _ (Nat.succ_pos _)),rfl⟩,qo⟩
      .split
       .rename_i k' b z hz
        obtain⟨e1,o1⟩:=vD hz
        cases hb:k.signed&&Nat.ble b (kmax k)with
        |false=>exact trivial
        |true=>
         simp only[q4L]at hb;intro hv _ hvc kin hkk _;rw[qg hkk];have h1:=o1 (hv _ q5f).1;exact⟨B5 hd hs e1 (Bi hb.1 (q5C h1 (q5y hb.2))) (R:=vZ k b z) rfl,⟨h1,rfl⟩,qo⟩
       .exact trivial
  .exact trivial
 .exact trivial
def wLen(P:Program)(t:TypeId):WV->HR
 | .c (.one (.dt (.sl t') b (l:List t'.den)))=>bif jB P t then .ok [] (vN .i64 b.len l.length) [] []else .bad
 | .c (.one (.dt .mag b (x:Nat)))=>bif jB P t then .ok [] (vN .i64 (b.nb/32+1) (limbs x).length) [] []else .bad
 | .c (.one (.nn t' b (l:List t'.den)))=>bif jB P t then .ok [] (vN .i64 b.len l.length) [] []else .bad
 | .c (.one (.ls k lo n cap w nb))=>bif jB P t then .ok [] (vN .i64 nb n) [] []else .bad
 | .c (.one (.gs k n w nb))=>bif jB P t then .ok [] (vN .i64 nb n) [] []else .bad
 | .c (.one (.so k lo n w nb))=>bif jB P t then .ok [] (vN .i64 nb n) [] []else .bad
 | .c (.one a)=>bif jB P t&&vX a then .ok [] (.c (.one (.kn .i64 0))) [] []else .bad
 |_=> .bad
theorem E8{t:TypeId}{x:Operand}{v R:AV}(h:jB P t=true)(hv:(∃k off n c,v= .c (.one (.sl k off n c))/\R=qb .i64 n)\/(∃k n,v= .c (.one (.gs k n))/\R=qb .i64 n)\/(v= .c (.one (.val (.slice none 0 0)))/\R=qb .i64 0)):
  OpOk P (.call {callee:= .builtin .len,args:= #[x],argTypes:= #[t]}) ty [(x,v)] [] R []:=by
 refine P0 ?_;unfold jB at h;unfold QZ;rcases hv with⟨k,off,n,c,rfl,rfl⟩|⟨k,n,rfl,rfl⟩|⟨rfl,rfl⟩
 all_goals
  simp only
  cases hu:P.underlying t with
  |none=>rw[hu]at h;cases h
  |some d=>cases d<;>rw[hu]at h<;>first|rfl|cases h
theorem Ry{t:TypeId}{x:Operand}{v:WV}:HOk P (.call {callee:= .builtin .len,args:= #[x],argTypes:= #[t]}) ty [x] [v] bl (wLen P t v):=by
 unfold wLen;split
 .rename_i t' b l
  cases hs:jB P t with
  |false=>exact trivial
  |true=>
   intro hv _ hvc kin hkk _;rw[qg hkk];exact⟨gLen hs (PF _ _),⟨(Bnd.sl (hv _ q5f).1).1,rfl⟩,qo⟩
 .rename_i b z
  cases hs:jB P t with
  |false=>exact trivial
  |true=>
   intro hv _ hvc kin hkk _;rw[qg hkk];exact⟨gLen hs (PF _ _),⟨(Bnd.limbs (Bnd.mag (hv _ q5f).1)).1,rfl⟩,qo⟩
 .rename_i t' b l
  cases hs:jB P t with
  |false=>exact trivial
  |true=>
   intro hv _ hvc kin hkk _;rw[qg hkk];exact⟨gLen hs (λH v h=>by obtain⟨p,c,h,_⟩:=Un H v h;exact⟨p,c,h⟩),⟨(Bnd.sl (hv _ q5f).1).1,rfl⟩,qo⟩
 .rename_i k lo n cap w nb
  cases hs:jB P t with
  |false=>exact trivial
  |true=>
   intro hv _ hvc kin hkk _;rw[qg hkk];exact⟨E8 hs (.inl ⟨_,_,_,_,rfl,rfl⟩),⟨(hv _ q5f).1.2,rfl⟩,qo⟩
 .rename_i k n w nb
  cases hs:jB P t with
  |false=>exact trivial
  |true=>
   intro hv _ hvc kin hkk _;rw[qg hkk];exact⟨E8 hs (.inr (.inl ⟨_,_,rfl,rfl⟩)),⟨(hv _ q5f).1,rfl⟩,qo⟩
 .rename_i k lo n w nb
  cases hs:jB P t with
  |false=>exact trivial
  |true=>
   intro hv _ hvc kin hkk _;rw[qg hkk];exact⟨q1p hs,⟨(hv _ q5f).1,rfl⟩,qo⟩
 .rename_i a _ _ _ _ _ _
  cases hs:jB P t&&vX a with
  |false=>exact trivial
  |true=>
   simp only[q4L]at hs;have:=zZ hs.2;subst this
   intro hv _ hvc kin hkk _;rw[qg hkk];exact⟨E8 hs.1 (.inr (.inr ⟨rfl,rfl⟩)),⟨trivial,rfl⟩,qo⟩
 .exact trivial
theorem FU{ty:TypeId}{x y:Operand}{ts:Array TypeId}{k:IntKind}{a b:Int}:
  OpOk P (.call {callee:= .builtin .max,args:= #[x,y],argTypes:=ts}) ty [(x,qb k a),(y,qb k b)] [] (qb k (max a b)) []:=
 qk λac w H β hins _ _=>by
  have hx:=(hins (x,qb k a) (by simp)).1;have hy:=(hins (y,qb k b) (by simp)).1;simp only at hx hy;refine⟨.int k (max a b),⟨rfl,rfl⟩,λ_ _ _ _=>?_⟩
  have e:(if b>a then b else a)=max a b:=by
   rw[Int.max_def];split<;>split<;>omega
  simp[execOp,resolve,invoke,builtin,hx,hy,Builtin.max_,Builtin.max2,e]
def wMax:WV->WV->HR
 | .c (.one a),.c (.one b)=>match asZ a,asZ b with
  |some (k,b1,z1),some (k',b2,z2)=>bif kbeq k k' then .ok [] (vZ k (b1+b2) (max z1 z2)) [] []else .bad
  |_,_=> .bad
 |_,_=> .bad
theorem RB{x y:Operand}{ts:Array TypeId}{v u:WV}:HOk P (.call {callee:= .builtin .max,args:= #[x,y],argTypes:=ts}) ty [x,y] [v,u] bl (wMax v u):=by
 unfold wMax;split
 .rename_i a b
  split
  .rename_i k b1 z1 k' b2 z2 h1 h2
   obtain⟨e1,o1⟩:=vD h1;obtain⟨e2,o2⟩:=vD h2
   cases hk:kbeq k k' with
   |false=>exact trivial
   |true=>
    have:=vy hk;subst this;intro hv _ hvc kin hkk _;rw[qg hkk];have q1:=o1 (hv _ q5f).1;have q2:=o2 (hv (.c (.one b)) (by simp)).1;refine⟨q02 e1 e2 FU,⟨?_,rfl⟩,qo⟩;show Int.natAbs (max z1 z2)<=b1+b2;rw[Int.max_def];split<;>omega
  .exact trivial
 .exact trivial
theorem FW{ty:TypeId}{x y:Operand}{ts:Array TypeId}{k:IntKind}{a b:Int}:
  OpOk P (.call {callee:= .builtin .min,args:= #[x,y],argTypes:=ts}) ty [(x,qb k a),(y,qb k b)] [] (qb k (min a b)) []:=
 qk λac w H β hins _ _=>by
  have hx:=(hins (x,qb k a) (by simp)).1;have hy:=(hins (y,qb k b) (by simp)).1;simp only at hx hy;refine⟨.int k (min a b),⟨rfl,rfl⟩,λ_ _ _ _=>?_⟩
  have e:(if b<a then b else a)=min a b:=by
   rw[Int.min_def];split<;>split<;>omega
  simp[execOp,resolve,invoke,builtin,hx,hy,Builtin.min_,Builtin.min2,e]
def wMin:WV->WV->HR:=λ_ _=> .bad
theorem RC{x y:Operand}{ts:Array TypeId}{v u:WV}:HOk P (.call {callee:= .builtin .min,args:= #[x,y],argTypes:=ts}) ty [x,y] [v,u] bl (wMin v u):=trivial
end
end
section
section
variable {P:Program} {bl:Nat->Option WB} {ty:TypeId}
def asL:WA->Option (Sigma λt:Ty=>Bd×List t.den)
 | .dt (.sl t) b (l:List t.den)=>some ⟨t,b,l⟩
 | .dt .mag b (x:Nat)=>some ⟨.nat .u32,IP b.nb,limbs x⟩
 |_=>none
theorem Ec{a:WA}{t:Ty}{b:Bd}{l:List t.den}(h:asL a=some ⟨t,b,l⟩):a.exp=[.abs (flP (jc t l) l.length)]/\(a.ok->Bnd (.sl t) b l):=by
 unfold asL at h;split at h
 .simp only[q61]at h;cases h;exact⟨rfl,λh=>h⟩
 .simp only[q61]at h;cases h
  refine⟨?_,λh=>Bnd.limbs (Bnd.mag h)⟩;show[Atom.abs (natP _)]=_;rw[FN]
 .cases h
def vL(t:Ty)(n:Nat)(e:Bd)(l:List t.den):WV:= .c (.one (.dt (.sl t) (.s n e) l))
theorem Ow(t:Ty)(n:Nat)(e:Bd)(l:List t.den):(vL t n e l).exp= .c (.one (.abs (flP (jc t l) l.length))):=rfl
theorem Gt{a:WA}{A:Pred}(h:a.exp=[.abs A]):(WV.c (.one a)).exp= .c (.one (.abs A)):=by
 simp only[WV.exp,WC.exp,h,List.headD_cons]
def Y6(lo:Option Nat)(j:Nat):Option Nat:=some (offs lo j)
def I7(P:Program)(t:TypeId)(bl:Nat->Option WB)(a r:WA):HR:=
 match asN r,jx P t with
 |some (_,rb,r),some es=>match asL a with
  |some ⟨t',b,l⟩=>bif Nat.beq es t'.w&&Nat.blt 0 t'.w then .ok [r<=l.length] (vL t' b.len b.e (l.take r)) [] []else .bad
  |none=>match a with
   | .ls k lo n cap w nb=>bif Nat.beq es w then .ok [r<=cap] (.c (.one (.ls k lo r cap w rb))) [] []else .bad
   | .gs k n w nb=>match bl k with
    |some (.gro t' b l)=>bif Nat.beq es w&&Nat.beq w t'.w&&Nat.blt 0 w then .ok [r<=n,n<=l.length] (.c (.one (.gs k r w rb))) [k] []else .bad
    |_=> .bad
   |_=> .bad
 |_,_=> .bad
def I9(P:Program)(t:TypeId)(bl:Nat->Option WB)(a l0:WA):HR:=
 match asN l0,jx P t with
 |some (_,_,l0),some es=>match asL a with
  |some ⟨t',b,l⟩=>bif Nat.beq es t'.w&&Nat.blt 0 t'.w then .ok [l0<=l.length] (vL t' b.len b.e (l.drop l0)) [] []else .bad
  |none=>match a with
   | .ls k lo n cap w nb=>bif Nat.beq es w then .ok [l0<=n,l0<cap] (.c (.one (.ls k (Y6 lo l0) (n-l0) (cap-l0) w nb))) [] []else .bad
   | .gs k n w nb=>match bl k with
    |some (.gro t' b l)=>bif Nat.beq es w&&Nat.beq w t'.w&&Nat.blt 0 w then .ok [l0<=n,n<=l.length] (.c (.one (.so k l0 (n-l0) w nb))) [k] []else .bad
    |_=> .bad
   |_=> .bad
 |_,_=> .bad
def OO(P:Program)(t:TypeId)(a l0 r:WA):HR:= .bad
def Kw(P:Program)(t:TypeId)(a r m:WA):HR:=
 match asN r,asN m,jx P t with
 |some (k1,rb,r),some (k2,_,m),some es=>match a with
   | .ls k lo n cap w nb=>bif Nat.beq es w&&kbeq k1 k2 then .ok [r<=cap,r=m] (.c (.one (.ls k lo r r w rb))) [] []else .bad
   |_=> .bad
 |_,_,_=> .bad
def I8(P:Program)(t:TypeId)(a l0 r m:WA):HR:=
 match asN l0,asN r,asN m,jx P t with
 |some (_,_,l0),some (k1,rb,r),some (k2,_,m),some es=>match a with
   | .ls k lo n cap w nb=>bif Nat.beq es w&&kbeq k1 k2 then .ok [l0<r,r<=cap,r=m] (.c (.one (.ls k (Y6 lo l0) (r-l0) (r-l0) w rb))) [] []else .bad
   |_=> .bad
 |_,_,_,_=> .bad
def ON(P:Program)(t:TypeId)(bl:Nat->Option WB)(lo hi mx:Option Operand)(vs:List WV):HR:=
 match lo,hi,mx,vs with
 |none,some _,none,[.c (.one a),.c (.one r)]=>I7 P t bl a r
 |some _,none,none,[.c (.one a),.c (.one l)]=>I9 P t bl a l
 |some _,some _,none,[.c (.one a),.c (.one l),.c (.one r)]=>OO P t a l r
 |none,some _,some _,[.c (.one a),.c (.one r),.c (.one m)]=>Kw P t a r m
 |some _,some _,some _,[.c (.one a),.c (.one l),.c (.one r),.c (.one m)]=>I8 P t a l r m
 |_,_,_,_=> .bad
theorem KU{c c':List CAtom}{n n':Nat}(h:c=c')(k:n=n'):(AV.c (.one (.abs (flP c n))))= .c (.one (.abs (flP c' n'))):=by rw[h,k]
theorem W8{t:Ty}{b:Bd}{l:List t.den}(h:Bnd (.sl t) b l)(r:Nat):Bnd (.sl t) (.s b.len b.e) (l.take r):=
 ⟨by have:=(Bnd.sl h).1;rw[q5a];omega,λx hx=>(Bnd.sl h).2 x (q5i hx)⟩
theorem W7{t:Ty}{b:Bd}{l:List t.den}(h:Bnd (.sl t) b l)(r:Nat):Bnd (.sl t) (.s b.len b.e) (l.drop r):=
 ⟨by have:=(Bnd.sl h).1;rw[q57];omega,λx hx=>(Bnd.sl h).2 x (List.mem_of_mem_drop hx)⟩
theorem TN{t:TypeId}{x z:Operand}{a r:WA}:HOk P (.slice t x none (some z) none) ty [x,z] [.c (.one a),.c (.one r)] bl (I7 P t bl a r):=by
 unfold I7;split
 .rename_i kk rb r es hr hes
  obtain⟨er,or⟩:=jO hr;split
  .rename_i t' b l hl
   obtain⟨el,ol⟩:=Ec hl
   cases hb:Nat.beq es t'.w&&Nat.blt 0 t'.w with
   |false=>exact trivial
   |true=>
    simp only[q4L]at hb;have:=q5w hb.1;subst this
    intro hv _ hvc kin hk _;rw[qg hk];have hrl:r<=l.length:=hvc _ q5f;refine⟨?_,⟨W8 (ol (hv _ q5f).1) r,rfl⟩,qo⟩;show OpOk P _ _ [(x,(WV.c (.one a)).exp),(z,(WV.c (.one _)).exp)] [] _ [];rw[Gt el,jl er,Ow];rw[KU (c':=jc t' (l.take r)) (n':=r-0) rfl (by rw[q5a];omega)];exact WE hes (by simpa using hb.2) (jJ _ _) rfl hrl (by rw[q5Y,q4U,Nat.sub_zero,Ax])
  .split
   .rename_i k lo n cap w nb _
    cases hb:Nat.beq es w with
    |false=>exact trivial
    |true=>
     have:=q5w hb;subst this
     intro hv _ hvc kin hk _;rw[qg hk];have hrl:r<=cap:=hvc _ q5f;refine⟨?_,⟨⟨hrl,or (hv _ (q5e _ q5f)).1⟩,rfl⟩,qo⟩;show OpOk P _ _ [(x,_),(z,(WV.c (.one _)).exp)] [] (.c (.one (.sl k (lo.getD 0*es) r cap))) [];rw[jl er];have:=Rt (P:=P) (t:=t) (ty:=ty) (x:=x) (z:=z) (k:=k) (off:=lo.getD 0*es) (n:=n) (cap:=cap) (k2:=kk) (i2:=(r:Int)) hes rfl hrl;rw[q5Y,q5t,Nat.sub_zero,Nat.sub_zero]at this;exact this
   .rename_i k n w nb _
    split
    .rename_i t' b l hl
     cases hb:Nat.beq es w&&Nat.beq w t'.w&&Nat.blt 0 w with
     |false=>exact trivial
     |true=>
      simp only[q4L]at hb;have:=q5w hb.1.1;subst this
      have:=q5w hb.1.2;subst this
      intro hv _ hvc kin hk hkb;rw[zS hk hkb hl];have hrn:r<=n:=hvc _ q5f;have hnl:n<=l.length:=hvc (n<=l.length) (by simp);refine⟨?_,⟨or (hv _ (q5e _ q5f)).1,rfl⟩,qo⟩;show OpOk P _ _ [(x,_),(z,(WV.c (.one _)).exp)] [(k,.grow t'.w (qI t' l))] (.c (.one (.gs k r))) [];rw[jl er];exact Rr hes (by simpa using hb.2) rfl hrn (by rw[zk];exact q5O _ hnl)
    .exact trivial
   .exact trivial
 .exact trivial
theorem TQ{t:TypeId}{x z:Operand}{a r:WA}:HOk P (.slice t x (some z) none none) ty [x,z] [.c (.one a),.c (.one r)] bl (I9 P t bl a r):=by
 unfold I9;split
 .rename_i kk rb r es hr hes
  obtain⟨er,or⟩:=jO hr;split
  .rename_i t' b l hl
   obtain⟨el,ol⟩:=Ec hl
   cases hb:Nat.beq es t'.w&&Nat.blt 0 t'.w with
   |false=>exact trivial
   |true=>
    simp only[q4L]at hb;have:=q5w hb.1;subst this
    intro hv _ hvc kin hk _;rw[qg hk];have hrl:r<=l.length:=hvc _ q5f;refine⟨?_,⟨W7 (ol (hv _ q5f).1) r,rfl⟩,qo⟩;show OpOk P _ _ [(x,(WV.c (.one a)).exp),(z,(WV.c (.one _)).exp)] [] _ [];rw[Gt el,jl er,Ow];rw[KU (c':=jc t' (l.drop r)) (n':=l.length-r) rfl (by rw[q57])];exact WF hes (by simpa using hb.2) (jJ _ _) rfl hrl (by rw[CO,q5o (by rw[jJ,q57];exact q5B _)])
  .split
   .rename_i k lo n cap w nb _
    cases hb:Nat.beq es w with
    |false=>exact trivial
    |true=>
     have:=q5w hb;subst this
     intro hv _ hvc kin hk _;rw[qg hk];have h1:r<=n:=hvc _ q5f;have h2:r<cap:=hvc (r<cap) (by simp);have ho:n<=cap/\n<=nb:=(hv _ q5f).1;refine⟨?_,⟨⟨by omega,by omega⟩,rfl⟩,qo⟩;show OpOk P _ _ [(x,_),(z,(WV.c (.one _)).exp)] [] (.c (.one (.sl k (offs lo r*es) (n-r) (cap-r)))) [];rw[jl er,FQ,q5s];exact Rv hes rfl h1 ho.1 h2
   .rename_i k n w nb _
    split
    .rename_i t' b l hl
     cases hb:Nat.beq es w&&Nat.beq w t'.w&&Nat.blt 0 w with
     |false=>exact trivial
     |true=>
      simp only[q4L]at hb;have:=q5w hb.1.1;subst this
      have:=q5w hb.1.2;subst this
      intro hv _ hvc kin hk hkb;rw[zS hk hkb hl];have hrn:r<=n:=hvc _ q5f;have hnl:n<=l.length:=hvc (n<=l.length) (by simp);have ho:n<=nb:=(hv _ q5f).1;refine⟨?_,⟨show n-r<=nb by omega,rfl⟩,qo⟩;show OpOk P _ _ [(x,_),(z,(WV.c (.one _)).exp)] [(k,.grow t'.w (qI t' l))] (.c (.one (.so k (r*t'.w) r (n-r)))) [];rw[jl er];exact Rs hes (by simpa using hb.2) rfl hrn (by rw[zk];exact q5O _ hnl)
    .exact trivial
   .exact trivial
 .exact trivial
theorem TP{t:TypeId}{x y z:Operand}{a l r:WA}:HOk P (.slice t x (some y) (some z) none) ty [x,y,z] [.c (.one a),.c (.one l),.c (.one r)] bl (OO P t a l r):=trivial
theorem HA{t:TypeId}{x z z':Operand}{a r m:WA}:HOk P (.slice t x none (some z) (some z')) ty [x,z,z'] [.c (.one a),.c (.one r),.c (.one m)] bl (Kw P t a r m):=by
 unfold Kw;split
 .rename_i k1 rb r k2 mb m es hr hm hes
  obtain⟨er,or⟩:=jO hr;obtain⟨em,om⟩:=jO hm;split
  .rename_i k lo n cap w nb
   cases hb:Nat.beq es w&&kbeq k1 k2 with
   |false=>exact trivial
   |true=>
    simp only[q4L]at hb;have:=q5w hb.1;subst this
    cases vy hb.2;intro hv _ hvc kin hk _;rw[qg hk];have h1:r<=cap:=hvc _ q5f;have h2:r=m:=hvc (r=m) (by simp);have h4:=or (hv _ (q5e _ q5f)).1;refine⟨?_,⟨⟨q5B _,h4⟩,rfl⟩,qo⟩;show OpOk P _ _ [(x,_),(z,(WV.c (.one _)).exp),(z',(WV.c (.one _)).exp)] [] (.c (.one (.sl k (lo.getD 0*es) r r))) [];rw[jl er,jl em,<-h2];exact TH hes rfl h1
  .exact trivial
 .exact trivial
theorem TO{t:TypeId}{x y z z':Operand}{a l r m:WA}:HOk P (.slice t x (some y) (some z) (some z')) ty [x,y,z,z'] [.c (.one a),.c (.one l),.c (.one r),.c (.one m)] bl (I8 P t a l r m):=by
 unfold I8;split
 .rename_i k0 b0 l0 k1 rb r k2 mb m es hl hr hm hes
  obtain⟨el,ol⟩:=jO hl;obtain⟨er,or⟩:=jO hr;obtain⟨em,om⟩:=jO hm;split
  .rename_i k lo n cap w nb
   cases hb:Nat.beq es w&&kbeq k1 k2 with
   |false=>exact trivial
   |true=>
    simp only[q4L]at hb;have:=q5w hb.1;subst this
    cases vy hb.2;intro hv _ hvc kin hk _;rw[qg hk];have h1:l0<r:=hvc _ q5f;have h2:r<=cap:=hvc (r<=cap) (by simp);have h3:r=m:=hvc (r=m) (by simp);have h4:=or (hv _ (q5e _ (q5e _ q5f))).1;refine⟨?_,⟨⟨q5B _,by omega⟩,rfl⟩,qo⟩;show OpOk P _ _ [(x,_),(y,(WV.c (.one _)).exp),(z,(WV.c (.one _)).exp),(z',(WV.c (.one _)).exp)] [] (.c (.one (.sl k (offs lo l0*es) (r-l0) (r-l0)))) [];rw[jl el,jl er,jl em,<-h3,FQ,q5s];exact Ru hes rfl rfl h1 h2
  .exact trivial
 .exact trivial
theorem Gv{t:TypeId}{x:Operand}{lo hi mx:Option Operand}{vs:List WV}:HOk P (.slice t x lo hi mx) ty (Op.operands (.slice t x lo hi mx)).toList vs bl (ON P t bl lo hi mx vs):=by
 unfold ON;split
 .exact TN
 .exact TQ
 .exact TP
 .exact HA
 .exact TO
 .exact trivial
def zc:Ty->Option (List Value)
 | .nat k=>some [.int k 0]
 | .int k=>some [.int k 0]
 | .bool=>some [.bool false]
 | .str=>some [.string ByteArray.empty]
 | .mag=>some [.slice none 0 0]
 | .rat=>some [.bool false,.slice none 0 0,.slice none 0 0]
 | .sl _=>some [.slice none 0 0]
 | .pr a b=>match zc a with
  |some x=>match zc b with
   |some y=>some (x++y)
   |none=>none
  |none=>none
 | .st t=>zc t
 | .fn _=>none
 | .pt _=>none
 | .cl _ _=>none
theorem E5: ∀{t:Ty}{vs:List Value},zc t=some vs-> ∀β H,Sats β H (ql t t.dft) vs
 | .nat k,vs,h,β,H=>by simp[zc]at h;subst h;exact⟨⟨rfl,rfl⟩,trivial⟩
 | .int k,vs,h,β,H=>by simp[zc]at h;subst h;exact⟨⟨rfl,rfl⟩,trivial⟩
 | .bool,vs,h,β,H=>by simp[zc]at h;subst h;exact⟨⟨rfl,rfl⟩,trivial⟩
 | .str,vs,h,β,H=>by simp[zc]at h;subst h;exact⟨⟨rfl,rfl⟩,trivial⟩
 | .mag,vs,h,β,H=>by simp[zc]at h;subst h;exact⟨flnil,trivial⟩
 | .rat,vs,h,β,H=>by simp[zc]at h;subst h;exact⟨⟨rfl,rfl⟩,flnil,flnil,trivial⟩
 | .sl _,vs,h,β,H=>by simp[zc]at h;subst h;exact⟨flnil,trivial⟩
 | .pr a b,vs,h,β,H=>by
  simp only[zc]at h
  cases h1:zc a with
  |none=>rw[h1]at h;cases h
  |some x=>
   rw[h1]at h;simp only at h
   cases h2:zc b with
   |none=>rw[h2]at h;cases h
   |some y=>
    rw[h2]at h;simp at h;subst h
    have:ql (.pr a b) (Ty.dft (.pr a b))=ql a a.dft++ql b b.dft:=by simp[ql,cellsC,Ty.dft]
    rw[this];exact Sats.append (E5 h1 β H) (E5 h2 β H)
 | .st t,vs,h,β,H=>E5 (t:=t) h β H
 | .fn _,vs,h,β,H=>by simp[zc]at h
 | .pt _,vs,h,β,H=>by simp[zc]at h
 | .cl _ _,vs,h,β,H=>by simp[zc]at h
def veq:Value->Value->Bool
 | .int k z,.int k' z'=>kbeq k k'&&decide (z=z')
 | .bool a,.bool b=>(a&&b)||(!a&&!b)
 | .string a,.string b=>Nat.beq a.size 0&&Nat.beq b.size 0
 | .slice none n c,.slice none n' c'=>Nat.beq n n'&&Nat.beq c c'
 |_,_=>false
theorem VI{a b:Value}(h:veq a b=true):a=b:=by
 unfold veq at h;split at h
 .simp only[q4L,decide_eq_true_eq]at h;rw[vy h.1,h.2]
 .rename_i a b;cases a<;>cases b<;>first|rfl|cases h
 .simp only[q4L]at h
  rename_i a b;have h1:=q5w h.1;have h2:=q5w h.2
  congr 1
  apply ByteArray.ext;exact(q4K h1).trans (q4K h2).symm
 .simp only[q4L]at h;rw[q5w h.1,q5w h.2]
 .cases h
def vseq:List Value->List Value->Bool
 |[],[]=>true
 |a::r,b::s=>veq a b&&vseq r s
 |_,_=>false
theorem QS: ∀{a b:List Value},vseq a b=true->a=b
 |[],[],_=>rfl
 |a::r,b::s,h=>by
  simp only[vseq,q4L]at h;rw[VI h.1,QS h.2]
 |[],_::_,h=>by simp[vseq]at h
 |_::_,[],h=>by simp[vseq]at h
theorem SU(z:Array Value)(hz:0<z.size): ∀n:Nat,((Array.range (n*z.size)).map (z[· %z.size]!)).toList=(List.replicate n z.toList).flatten:=by
 intro n
 have main: ∀n:Nat,(List.range (n*z.size)).map (λi=>z[i%z.size]!)=(List.replicate n z.toList).flatten:=by
  intro n
  induction n with
  |zero=>simp
  |succ n ih=>
   rw[q5V,List.range_add,List.map_append,ih,List.replicate_succ',List.flatten_append]
   congr 1
   rw[List.map_map];simp only[List.flatten_cons,List.flatten_nil,List.append_nil];refine List.ext_getElem (by simp) λi h1 h2=>?_
   have hi:i<z.size:=by simpa using h1
   simp only[List.getElem_map,Function.comp,List.getElem_range];rw[show(n*z.size+i)%z.size=i by rw[Nat.add_comm,Nat.add_mul_mod_self_right,q5H hi]];simp[hi]
 rw[Array.toList_map,Array.toList_range];exact main n
theorem zK{t:Ty}{z:Array Value}(h:zc t=some z.toList)(hw:0<t.w)(n:Nat)(β:Bm)(H:Heap):Sats β H (qI t (List.replicate n t.dft)) (((Array.range (n*t.w)).map (z[· %z.size]!)).toList):=by
 have hs:z.size=t.w:=by
  have:=(E5 h β H).length;rw[vI]at this;simpa using this.symm
 rw[<-hs,SU z (by omega)]
 induction n with
 |zero=>exact trivial
 |succ n ih=>
  rw[List.replicate_succ,List.replicate_succ,List.flatten_cons];show Sats β H (ql t t.dft++qI t _) _;exact Sats.append (E5 h β H) ih
inductive MH where
 |no
 |arr (t:Ty) (b:Bd)
 |gro (t:Ty) (b:Bd)
 |im (t:Ty) (b:Bd)
def zOk(P:Program)(ts:TypeId)(t:Ty):Bool:=
 match elZ P ts,elB P ts,zc t with
 |some z,some (s,_),some l=>vseq l z.toList&&Nat.beq s t.w&&Nat.blt 0 s
 |_,_,_=>false
theorem OY{ts:TypeId}{t:Ty}(h:zOk P ts t=true): ∃z b,elZ P ts=some z/\elB P ts=some (t.w,b)/\zc t=some z.toList/\0<t.w/\z.size=t.w:=by
 unfold zOk at h;split at h
 .rename_i z s b l h1 h2 h3
  simp only[q4L]at h;have e1:=QS h.1.1;have e2:=q5w h.1.2;subst e1 e2;refine⟨z,b,h1,h2,h3,by simpa using h.2,?_⟩;have:=(E5 h3 (λ_=>none) (λ_=>none)).length;rw[vI]at this;simpa using this.symm
 .cases h
def Bd.fit:Ty->Bd->Bool
 | .nat _,.n _| .int _,.n _| .str,.n _| .mag,.n _| .rat,.n _=>true
 | .bool,_| .fn _,_=>true
 | .sl t,.s _ e=>true
 | .pr a b,.p c d=>Bd.fit a c&&Bd.fit b d
 | .st t,e=>Bd.fit t e
 |_,_=>false
theorem Gi: ∀{t:Ty}{b:Bd},Bd.fit t b=true->Bnd t b t.dft
 | .nat _,.n _,_=>q5X _
 | .int _,.n _,_=>q5X _
 | .str,.n _,_=>q5X _
 | .mag,.n b,_=>show(0:Nat)<2^b from q5T (by decide)
 | .rat,.n b,_=>⟨show(0:Nat)<2^b from q5T (by decide),show(1:Nat)<=2^b from q5T (by decide)⟩
 | .bool,_,_=>trivial
 | .fn _,_,_=>trivial
 | .sl t,.s _ e,_=>⟨q5X _,λx hx=>by simp[Ty.dft]at hx⟩
 | .pr a b,.p c d,h=>by
  simp only[Bd.fit,q4L]at h;exact⟨Gi h.1,Gi h.2⟩
 | .st t,e,h=>Gi (t:=t) h
 | .nat _,.u,h| .nat _,.s _ _,h| .nat _,.p _ _,h=>by simp[Bd.fit]at h
 | .int _,.u,h| .int _,.s _ _,h| .int _,.p _ _,h=>by simp[Bd.fit]at h
 | .str,.u,h| .str,.s _ _,h| .str,.p _ _,h=>by simp[Bd.fit]at h
 | .mag,.u,h| .mag,.s _ _,h| .mag,.p _ _,h=>by simp[Bd.fit]at h
 | .rat,.u,h| .rat,.s _ _,h| .rat,.p _ _,h=>by simp[Bd.fit]at h
 | .sl _,.u,h| .sl _,.n _,h| .sl _,.p _ _,h=>by simp[Bd.fit]at h
 | .pr _ _,.u,h| .pr _ _,.n _,h| .pr _ _,.s _ _,h=>by simp[Bd.fit]at h
theorem TG{t ty:TypeId}{x y:Operand}{d n s b:Nat}{z:Array Value}(hb:elB P t=some (s,b))(hz:elZ P t=some z)(hs:0<s)(hn:n*b<=281474976710656)(hn2:n<9223372036854775808)
  {R:AV}{B:Blk}(hR: ∀(β:Bm)(H:Heap)(w:World),R.sat (β.set d (some (w.heap.size,n))) H (.slice (some ⟨w.heap.size,0,none⟩) n n))
  (hB: ∀(β:Bm)(H:Heap)(w:World)(T:TypeId),B.rep (β.set d (some (w.heap.size,n))) (w.alloc (.cells ((Array.range (n*s)).map (z[· %z.size]!)) T)) H d):
  OpOk P (.makeSlice t x y) ty [(x,qb .i64 n),(y,qb .i64 n)] [] R [(d,some B)]:=by
 intro dst pos after guard a w H β K Q hins _ _ hon hK;have hx:=(hins _ q5f).1;have hy:=(hins (y,qb .i64 n) (by simp)).1;simp only at hx hy;obtain⟨T,hrun⟩:=LL hb hz .i64 n hn hn2 hs w;unfold Oper.wp
 have:(execOp a.eval ⟨dst,.makeSlice t x y,ty,pos,after,guard⟩).run P w= .ok (.value (.slice (some ⟨w.heap.size,0,none⟩) n n)) (w.alloc (.cells ((Array.range (n*s)).map (z[· %z.size]!)) T)):=by
  simp only[execOp,hx,hy,q64,hrun,q63,q65]
 rw[this];refine hK _ _ H (β.set d (some (w.heap.size,n))) ?_ (hR _ _ _) ?_
 .simpa[kwOf,qu,jk,look]using Step.alloc (β:=β) d n (.cells _ T) hon
 .intro k' b' hb'
  simp only[q5j,q62,q61]at hb';obtain⟨rfl,rfl⟩:=hb';exact hB _ _ _ _
def Y3(h:MH)(d:Nat)(nb n:Nat)(l:(t:Ty)->List t.den):Option (Ty×Bd×WV×WB):=
 match h with
 | .arr t b=>some (t,b,.c (.one (.ls d none n n t.w nb)),.arr t b (l t))
 | .gro t b=>some (t,b,.c (.one (.gs d n t.w nb)),.gro t b (l t))
 |_=>none
def SO(P:Program)(ts:TypeId)(h:MH)(d:Nat):WV->WV->HR
 | .c (.one a),.c (.one c)=>match asN a,asN c,elB P ts with
  |some (.i64,nb,n),some (.i64,_,m),some (_,by_)=>match Y3 h d nb n (λt=>List.replicate n t.dft)with
   |some (t,b,R,B)=>bif zOk P ts t&&Bd.fit t b&&Nat.ble (nb*by_) 281474976710656&&Nat.ble nb 9223372036854775807 then
     (bif D0 a&&D0 c&&Nat.beq n m then .ok [] R [] [(d,some B)]else .ok [m=n] R [] [(d,some B)])else .bad
   |none=> .bad
  |_,_,_=> .bad
 |_,_=> .bad
theorem q1v{ts:TypeId}{h:MH}{d:Nat}{x y:Operand}{p v:WV}:HOk P (.makeSlice ts x y) ty [x,y] [p,v] bl (SO P ts h d p v):=by
 unfold SO;split
 .rename_i a c
  split
  .rename_i nb n mb m s by_ ha hc hb
   obtain⟨ea,oa⟩:=jO ha;obtain⟨ec,oc⟩:=jO hc;split
   .rename_i t b R B hm
    have main:(∀v∈[WV.c (.one a),.c (.one c)],v.ok)->(zOk P ts t&&Bd.fit t b&&Nat.ble (nb*by_) 281474976710656&&Nat.ble nb 9223372036854775807)=true->m=n-> ∀kin:List (Nat×WB),kin.map (·.1)=[]->
      OpOk P (.makeSlice ts x y) ty (List.zip [x,y] ([WV.c (.one a),.c (.one c)].map WV.exp)) (kinE kin) R.exp (LwE [(d,some B)])/\R.ok/\LwOk [(d,some B)]:=by
     intro hv hcond hmn kin hk;rw[qg hk];subst hmn;simp only[q4L]at hcond;obtain⟨⟨⟨hz,hf⟩,h1⟩,h2⟩:=hcond;have h1:=q5y h1;have h2:=q5y h2;obtain⟨z,b0,e1,e2,e3,e4,e5⟩:=OY hz;have hb0:=hb;rw[e2]at hb0;cases hb0
     have hn:=oa (hv _ q5f).1;have hn1:m*by_<=281474976710656:=q5C (q5O _ hn) h1;have hall: ∀x∈List.replicate m t.dft,Bnd t b x:=λx hx=>by rw[List.eq_of_mem_replicate hx];exact Gi hf
     show OpOk P _ _ [(x,(WV.c (.one a)).exp),(y,(WV.c (.one c)).exp)] [] R.exp [(d,some B.exp)]/\_;rw[jl ea,jl ec];unfold Y3 at hm;split at hm
     .simp only[q61,q62]at hm
      obtain⟨rfl,rfl,rfl,rfl⟩:=hm;refine⟨TG e2 e1 e4 hn1 (by omega) (λβ H w=>⟨_,_,Bm.set_same _ _ _,by simp⟩) (λβ H w T=>⟨_,_,_,T,Bm.set_same _ _ _,vS w _,zK e3 e4 _ _ _⟩),⟨⟨q5B _,hn⟩,rfl⟩,zT hall⟩
     .simp only[q61,q62]at hm
      obtain⟨rfl,rfl,rfl,rfl⟩:=hm;refine⟨TG e2 e1 e4 hn1 (by omega) (λβ H w=> .inr ⟨_,_,Bm.set_same _ _ _,rfl⟩) (λβ H w T=> .inr ⟨_,_,_,T,Bm.set_same _ _ _,vS w _,by simp,?_,?_⟩),⟨hn,rfl⟩,zT hall⟩
      .rw[zk];simp
      .have hl:=(zK (n:=m) e3 e4 (β.set d (some (w.heap.size,m))) H).length
       rw[hl,q5n];exact zK e3 e4 _ _ _
     .cases hm
    cases hcond:zOk P ts t&&Bd.fit t b&&Nat.ble (nb*by_) 281474976710656&&Nat.ble nb 9223372036854775807 with
    |false=>exact trivial
    |true=>
     simp only[cond_true]
     cases hl:D0 a&&D0 c&&Nat.beq n m with
     |true=>
      simp only[q4L]at hl;exact λhv _ _ kin hk _=>main hv hcond (q5w hl.2).symm kin hk
     |false=>exact λhv _ hvc kin hk _=>main hv hcond (hvc _ q5f) kin hk
   .exact trivial
  .exact trivial
 .exact trivial
def QW:WV->WV->Bool
 | .c (.one (.kn k z)),.c (.one c)=>kbeq k .i64&&decide (z=0)&&!D0 c
 |_,_=>false
def VQ(P:Program)(ts:TypeId)(h:MH)(d:Nat):WV->WV->HR:=λ_ _=> .bad
def OM(P:Program)(ts:TypeId)(h:MH)(d:Nat)(p v:WV):HR:=bif QW p v then VQ P ts h d p v else SO P ts h d p v
theorem Zl{ts:TypeId}{h:MH}{d:Nat}{x y:Operand}{p v:WV}:HOk P (.makeSlice ts x y) ty [x,y] [p,v] bl (VQ P ts h d p v):=trivial
theorem Zm{ts:TypeId}{h:MH}{d:Nat}{x y:Operand}{p v:WV}:HOk P (.makeSlice ts x y) ty [x,y] [p,v] bl (OM P ts h d p v):=by
 unfold OM
 cases QW p v with
 |true=>exact Zl (h:=h) (d:=d)
 |false=>exact q1v
def VN(P:Program)(ts:TypeId)(bl:Nat->Option WB):WV->HR:=λ_=> .bad
theorem JQ{ts:TypeId}{x:Operand}{v:WV}:HOk P (.call {callee:= .builtin .clear,args:= #[x],argTypes:= #[ts]}) ty [x] [v] bl (VN P ts bl v):=trivial
def wfill(place:Nat->Option (Nat×Nat)):List WA->List (Nat×WC)->Option (List WA)
 |l,[]=>some l
 |l,(i,x)::rest=>match place i with
  |none=>none
  |some (off,s)=>bif Nat.beq (WAs.wd x.cells) s then(match carve l off s with|some (a,_,p)=>wfill place (a++(x.cells++p)) rest|none=>none)else none
theorem F3{place:Nat->Option (Nat×Nat)}: ∀{parts:List (Nat×WC)}{l r:List WA},wfill place l parts=some r->WAs.ok l->(∀p∈parts,p.2.ok)->
  afill place (WAs.exp l) (parts.map λp=>(p.1,p.2.exp))=some (WAs.exp r)/\WAs.ok r
 |[],l,r,h,hl,_=>by simp[wfill]at h;subst h;exact⟨rfl,hl⟩
 |(i,x)::rest,l,r,h,hl,hp=>by
  simp only[wfill]at h;simp only[q5b,afill]
  cases hpl:place i with
  |none=>rw[hpl]at h;cases h
  |some q=>
   obtain⟨off,s⟩:=q;rw[hpl]at h;simp only at h⊢
   cases hw:Nat.beq (WAs.wd x.cells) s with
   |false=>rw[hw]at h;cases h
   |true=>
    rw[hw]at h;simp only[cond_true]at h
    have hw:=q5w hw
    cases hc:carve l off s with
    |none=>rw[hc]at h;cases h
    |some q=>
     obtain⟨a,m,p⟩:=q;rw[hc]at h;simp only at h
     have hx:x.ok:=hp _ q5f;have hvl:(WAs.exp x.cells).length=s:=by rw[WAs.exp_len,hw]
     have hok:=(jq hc).2.2.2 hl;obtain⟨h1,h2⟩:=F3 h (WAs.ok_app.2 ⟨hok.1,WAs.ok_app.2 ⟨WC.ok_cells hx,hok.2.2⟩⟩) (λp hp'=>hp p (q5e _ hp'));refine⟨?_,h2⟩;have hle:=(z7 hc).2;have e1:Nat.beq x.exp.cells.length s=true:=by rw[WC.exp_cells hx,hvl];exact Nat.beq_refl s
     have e2:Nat.ble (off+s) (WAs.exp l).length=true:=Nat.ble_eq_true_of_le hle;rw[e1,e2];simp only[Bool.and_self,cond_true];rw[WC.exp_cells hx,By hc hvl];exact h1
def wcs:List WV->Option (List WC)
 |[]=>some []
 | .c x::r=>match wcs r with|some l=>some (x::l)|none=>none
 | .tup _::_=>none
theorem Ia: ∀{vs:List WV}{l:List WC},wcs vs=some l->vs=l.map WV.c
 |[],l,h=>by simp[wcs]at h;subst h;rfl
 | .c x::r,l,h=>by
  simp only[wcs]at h
  cases hr:wcs r with
  |none=>rw[hr]at h;cases h
  |some l'=>rw[hr]at h;simp at h;subst h;rw[Ia hr];rfl
 | .tup _::_,_,h=>by simp[wcs]at h
def OH(P:Program)(t:TypeId)(parts:Array (Nat×Operand))(vs:List WV):HR:=
 match P.info? t with
 |some ti=>match ti.zero with
  |some z=>match wt z.cells.toList with
   |some zs=>match DT P t with
    |some place=>match wcs vs with
     |some cs=>bif Nat.beq parts.size cs.length&&Ak P t then(match wfill place zs (List.zip (parts.toList.map (·.1)) cs)with|some r=> .ok [] (.c (.agg r)) [] []|none=> .bad)else .bad
     |none=> .bad
    |none=> .bad
   |none=> .bad
  |none=> .bad
 |none=> .bad
theorem wz{α β γ:Type}(f:β->γ): ∀(l:List α)(m:List β),(List.zip l m).map (λp=>(p.1,f p.2))=List.zip l (m.map f)
 |[],_=>by simp
 |_::_,[]=>by simp
 |a::l,b::m=>by simp[wz f l m]
theorem JP{t:TypeId}{parts:Array (Nat×Operand)}{vs:List WV}:HOk P (.build t parts) ty (parts.toList.map (·.2)) vs bl (OH P t parts vs):=by
 unfold OH;split
 .rename_i ti hi
  split
  .rename_i z hz
   split
   .rename_i zs hzs
    split
    .rename_i place hp
     split
     .rename_i cs hcs
      cases hb:Nat.beq parts.size cs.length&&Ak P t with
      |false=>exact trivial
      |true=>
       simp only[q4L]at hb;simp only[cond_true];split
       .rename_i r hf
        intro hv _ _ kin hk _;rw[qg hk];have:=Ia hcs;subst this
        obtain⟨z1,z2⟩:=zQ hzs;have hvc: ∀x∈cs,x.ok:=λx hx=>hv (.c x) (List.mem_map.2 ⟨x,hx,rfl⟩)
        obtain⟨f1,f2⟩:=F3 hf z2 (λp hp=>hvc _ (List.of_mem_zip hp).2);rw[wz]at f1;refine⟨?_,f2,qo⟩;have h3:=hb.2;have:=X6 (P:=P) (ty:=ty) (parts:=parts) (vs:=cs.map WC.exp) hi hz z1 hp (by rw[q58];exact q5w hb.1) (λfs hfs=>by unfold Ak at h3;rw[hfs]at h3;exact h3) f1;rw[List.map_map]at this;rw[List.map_map];exact this
       .exact trivial
     .exact trivial
    .exact trivial
   .exact trivial
  .exact trivial
 .exact trivial
def AT(t:Ty)(b:Bd):Nat->List WA->Option (List t.den)
 |0,[]=>some []
 |0,_::_=>none
 |n+1,l=>match reify t l with
  |some (b',x,r)=>bif b'.le b then(match AT t b n r with|some xs=>some (x::xs)|none=>none)else none
  |none=>none
theorem Bq{t:Ty}{b:Bd}: ∀{n:Nat}{l:List WA}{xs:List t.den},AT t b n l=some xs->AImps (WAs.exp l) (qI t xs)/\xs.length=n/\(WAs.ok l-> ∀x∈xs,Bnd t b x)
 |0,[],xs,h=>by simp[AT]at h;subst h;exact⟨trivial,rfl,λ_ x hx=>by simp at hx⟩
 |0,_::_,_,h=>by simp[AT]at h
 |n+1,l,xs,h=>by
  simp only[AT]at h
  cases hr:reify t l with
  |none=>rw[hr]at h;cases h
  |some q=>
   obtain⟨b',x,r⟩:=q;rw[hr]at h;simp only at h
   cases hb:b'.le b with
   |false=>rw[hb]at h;cases h
   |true=>
    rw[hb]at h;simp only[cond_true]at h
    cases hx:AT t b n r with
    |none=>rw[hx]at h;cases h
    |some ys=>
     rw[hx]at h;simp at h;subst h
     obtain⟨m,e1,i1,o1⟩:=z6 hr;obtain⟨i2,l2,o2⟩:=Bq hx;refine⟨by rw[e1];exact wq i1 i2,by simp[l2],λhk y hy=>?_⟩;rcases q5d.1 hy with rfl|hy
     .exact Bnd.mono hb (o1 hk).1
     .exact o2 (o1 hk).2 y hy
theorem TE{t ty:TypeId}{s b len:Nat}{z:Array Value}{zs cs:List Atom}{cells:List CAtom}{parts:Array (Nat×Operand)}{vs:List Cmp}
  (hb:elB P t=some (s,b))(hz:elZ P t=some z)(hbig:Nat.ble (len*s) 16777216=true)(hzs:vG (DA (len*s) z)=some zs)(hl:parts.size=vs.length)
  (hf:afill (wR s) zs (List.zip (parts.toList.map (·.1)) vs)=some cs)(hc:AImps cs (cells.map CAtom.up)):
  OpOk P (.buildSlice t len parts) ty (List.zip (parts.toList.map (·.2)) (vs.map AV.c)) [] (.c (.one (.abs (flP cells len)))) []:=by
 intro dst pos after guard a w H β K Q hins _ _ hon hK;obtain⟨T,arr,hrun,hsat⟩:=Bc (a:=a) (β:=β) (H:=H) hb hz hbig hzs hl hf hins w;unfold Oper.wp
 have:(execOp a.eval ⟨dst,.buildSlice t len parts,ty,pos,after,guard⟩).run P w= .ok (.value (.slice (some ⟨w.heap.size,0,none⟩) len len)) (w.alloc (.cells arr T)):=by
  simp only[execOp,q64,hrun,q63,q65]
 rw[this];refine hK _ _ _ β (by simpa[kwOf,qu,jk]using Step.new (β:=β) arr T hon) ?_ (λk b hb=>by simp at hb);refine⟨_,_,rfl,q5B _,.inr ⟨w.heap.size,0,arr,rfl,Heap.set_at _ _ _,?_⟩⟩;have h1:=CSats.of_up (AImps.sats hc hsat);have h2:=CSats.length h1;rw[q4U,q5o (by omega)];exact h1.mono (Heap.set_le _ (hon.none (q5B _)))
def Dy(P:Program)(ts:TypeId)(len:Nat)(parts:Array (Nat×Operand))(h:MH)(d:Nat)(vs:List WV):HR:=
 match elB P ts,elZ P ts with
 |some (s,_),some z=>match wt (DA (len*s) z)with
  |some zs=>match wcs vs with
   |some cs=>bif Nat.ble (len*s) 16777216&&Nat.beq parts.size cs.length then(match wfill (wR s) zs (List.zip (parts.toList.map (·.1)) cs)with
    |some r=>match h with
     | .im t b=>match AT t b len r with
      |some xs=>bif Nat.beq s t.w then .ok [] (vL t len b xs) [] []else .bad
      |none=> .bad
     | .arr t b=>match AT t b len r with
      |some xs=>bif Nat.beq s t.w&&(WAs.ids r).all (λk=>!Nat.beq k d)then .ok [] (.c (.one (.ls d none len len t.w len))) [] [(d,some (.arr t b xs))]else .bad
      |none=> .bad
     | .gro t b=>match AT t b len r with
      |some xs=>bif Nat.beq s t.w&&(WAs.ids r).all (λk=>!Nat.beq k d)then .ok [] (.c (.one (.gs d len t.w len))) [] [(d,some (.gro t b xs))]else .bad
      |none=> .bad
     | .no=> .bad
    |none=> .bad)else .bad
   |none=> .bad
  |none=> .bad
 |_,_=> .bad
theorem Cs{ts:TypeId}{len:Nat}{parts:Array (Nat×Operand)}{h:MH}{d:Nat}{vs:List WV}:HOk P (.buildSlice ts len parts) ty (parts.toList.map (·.2)) vs bl (Dy P ts len parts h d vs):=by
 unfold Dy;split
 .rename_i s by_ z hb hz
  split
  .rename_i zs hzs
   split
   .rename_i cs hcs
    cases hc:Nat.ble (len*s) 16777216&&Nat.beq parts.size cs.length with
    |false=>exact trivial
    |true=>
     simp only[q4L]at hc;simp only[cond_true];split
     .rename_i r hf
      have hpre:(∀v∈vs,v.ok)->afill (wR s) (WAs.exp zs) (List.zip (parts.toList.map (·.1)) (cs.map WC.exp))=some (WAs.exp r)/\WAs.ok r/\vs=cs.map WV.c:=by
       intro hv;have:=Ia hcs;subst this
       obtain⟨z1,z2⟩:=zQ hzs;have hvc: ∀x∈cs,x.ok:=λx hx=>hv (.c x) (List.mem_map.2 ⟨x,hx,rfl⟩)
       obtain⟨f1,f2⟩:=F3 hf z2 (λp hp=>hvc _ (List.of_mem_zip hp).2);rw[wz]at f1;exact⟨f1,f2,rfl⟩
      have hz1:=(zQ hzs).1;have hpl:parts.size=(cs.map WC.exp).length:=by rw[q58];exact q5w hc.2
      have hvs:vs=cs.map WV.c->(List.zip (parts.toList.map (·.2)) (vs.map WV.exp))=List.zip (parts.toList.map (·.2)) ((cs.map WC.exp).map AV.c):=by
       intro e;subst e;rw[List.map_map,List.map_map];rfl
      split
      .rename_i t b
       split
       .rename_i xs hx
        cases hw:Nat.beq s t.w with
        |false=>exact trivial
        |true=>
         have:=q5w hw;subst this
         intro hv _ _ kin hk _;rw[qg hk];obtain⟨f1,f2,e⟩:=hpre hv;obtain⟨i1,l1,o1⟩:=Bq hx;refine⟨?_,⟨⟨Nat.le_of_eq l1,o1 f2⟩,rfl⟩,qo⟩;rw[hvs e,Ow,l1];exact TE hb hz hc.1 hz1 hpl f1 (by rw[<-vC];exact i1)
       .exact trivial
      .rename_i t b
       split
       .rename_i xs hx
        cases hw:Nat.beq s t.w&&(WAs.ids r).all (λk=>!Nat.beq k d)with
        |false=>exact trivial
        |true=>
         simp only[q4L]at hw;have:=q5w hw.1;subst this
         intro hv _ _ kin hk _;rw[qg hk];obtain⟨f1,f2,e⟩:=hpre hv;obtain⟨i1,l1,o1⟩:=Bq hx;refine⟨?_,⟨⟨q5B _,q5B _⟩,rfl⟩,zT (o1 f2)⟩;rw[hvs e];show OpOk P _ _ _ _ (.c (.one (.sl d ((none:Option Nat).getD 0*t.w) len len))) _;rw[show(none:Option Nat).getD 0*t.w=0 by simp];exact(WD hb hz hc.1 hz1 hpl f1 (JV hw.2)).weak (λ_ _ _ h=>h) (Ij (wQ i1))
       .exact trivial
      .rename_i t b
       split
       .rename_i xs hx
        cases hw:Nat.beq s t.w&&(WAs.ids r).all (λk=>!Nat.beq k d)with
        |false=>exact trivial
        |true=>
         simp only[q4L]at hw;have:=q5w hw.1;subst this
         intro hv _ _ kin hk _;rw[qg hk];obtain⟨f1,f2,e⟩:=hpre hv;obtain⟨i1,l1,o1⟩:=Bq hx;refine⟨?_,⟨q5B _,rfl⟩,zT (o1 f2)⟩;rw[hvs e];exact(Wz hb hz hc.1 hz1 hpl f1 (JV hw.2) (by rw[Gf i1,zk,l1])).weak (λ_ _ _ h=>h) (Ij (KG i1))
       .exact trivial
      .exact trivial
     .exact trivial
   .exact trivial
  .exact trivial
 .exact trivial
theorem OpOk.nilgs{op:Op}{x y:Operand}{k d m s:Nat}{Y:AV}{B:Blk}(hkd:d≠k)(hY:Y.men k=false)(hB:B.men k=false)
  (h:OpOk P op ty [(x,.c (.one (.gs k 0))),(y,Y)] [(k,.grow s [])] (.c (.one (.gs d m))) [(k,none),(d,some B)]):
  OpOk P op ty [(x,.c (.one (.val (.slice none 0 0)))),(y,Y)] [] (.c (.one (.gs d m))) [(d,some B)]:=by
 intro dst pos after guard a w H β K Q hins _ _ hon hK;have hx:=(hins _ q5f).1;have hy:=hins (y,Y) (by simp);simp only at hx hy;have hkd2:Nat.beq k d=false:=js (λh=>hkd h.symm);have hdk2:Nat.beq d k=false:=js hkd;refine h dst pos after guard a w H (β.set k none) K Q ?_ ?_ ?_ hon ?_
 .intro p hp
  simp only[q5d,q5l,or_false]at hp;rcases hp with rfl|rfl
  .exact .inl ⟨Bm.set_same _ _ _,rfl,hx⟩
  .refine AV.sat_congr (Heap.Le.refl _) (λq hq=>Bm.set_other _ _ λe=>?_) hy
   subst e;rw[hY]at hq;cases hq
 .intro p hp
  simp only[q5j]at hp;subst hp
  refine⟨.inl ⟨Bm.set_same _ _ _,rfl⟩,λb c hb=>?_⟩;rw[Bm.set_same]at hb;cases hb
 .intro p hp p' hp' hne
  simp only[q5j]at hp hp';subst hp hp';exact absurd rfl hne
 .intro v w' H' β' hs hR hL
  have hkw:kwOf [(k,Blk.grow s [])] [(k,(none:Option Blk)),(d,some B)]=[k]:=by simp[kwOf,look,hkd2]
  have hkn:qu [(k,Blk.grow s [])] [(k,(none:Option Blk)),(d,some B)]=[d]:=by simp[qu,look,hkd2]
  have hkdd:jk [(k,(none:Option Blk)),(d,some B)]=[k]:=by simp[jk]
  rw[hkw,hkn,hkdd]at hs;have hbd:(β'.set k (β k)) d=β' d:=Bm.set_other _ _ hkd;refine hK v w' H' (β'.set k (β k)) ?_ ?_ ?_
  .have e1:kwOf ([]:List (Nat×Blk)) [(d,some B)]=[]:=by simp[kwOf,look]
   have e2:qu ([]:List (Nat×Blk)) [(d,some B)]=[d]:=by simp[qu,look]
   have e3:jk [(d,some B)]=[]:=by simp[jk]
   rw[e1,e2,e3];refine⟨hs.os,hs.tape,hs.output,hs.size,λb hb _=>hs.keep b hb λq hq c hc=>?_,hs.hle,hs.hnew,hs.hon,λq hq=>?_,λq hq b c hb=>?_,λq hq q' hq' hne=>?_⟩
   .simp only[q5j]at hq;subst hq;rw[Bm.set_same]at hc;cases hc
   .by_cases e:q=k
    .subst e;exact Bm.set_same _ _ _
    .rw[Bm.set_other _ _ e,hs.beta q hq,Bm.set_other _ _ e]
   .simp only[q5j]at hq;subst hq
    rw[hbd]at hb;obtain⟨f1,f2⟩:=hs.fresh _ (by simp) b c hb;refine⟨f1,.inl ?_⟩;rcases f2 with f2|⟨k0,hk0,c0,f2⟩
    .exact f2
    .simp only[q5j]at hk0;subst hk0;rw[Bm.set_same]at f2;cases f2
   .simp only[q5j]at hq hq';subst hq hq';exact absurd rfl hne
  .refine AV.sat_congr (Heap.Le.refl _) (λq hq=>Bm.set_other _ _ λe=>?_) hR
   subst e;simp only[AV.men,Cmp.men,Atom.men,beq_iff_eq]at hq;exact hkd hq
  .intro q b hqb
   simp only[q5j,q62,q61]at hqb;obtain⟨rfl,rfl⟩:=hqb;refine Blk.rep_congr (hL _ _ (by simp)) (Heap.Le.refl _) (λq hq=>Bm.set_other _ _ λe=>?_) (λ_ _ _=>rfl);subst e;rcases hq with e|e
   .exact hkd e.symm
   .rw[hB]at e;cases e
def Kv (P : Program) (ts tx : TypeId) (h : MH) (bl : Nat -> Option WB) (d : Nat) : WV -> WV -> HR
  | .c (.one a), .c (.one y) => match asL y, elB P ts with
    | some ⟨t, by_, xs⟩, some (_, bytes) => bif zOk P ts t && jB P tx && Nat.blt 0 bytes then (match a with
      | .gs k n w nb => match bl k with
        | some (.gro t' b l) => bif Nat.beq w t.w && Nat.ble ((2 * (nb + by_.len) + 1000) * bytes) 281474976710656 && !Nat.beq d k then (match t'.beq t with
            | true => if h : t.beq t' = true then
              (bif by_.e.le b then .ok [n = l.length] (.c (.one (.gs d (n + xs.length) w (nb + by_.len)))) [k] [(k, none), (d, some (.gro t' b (l ++ va (t := .sl t) (t' := .sl t') h xs)))]
               else .ok [n = l.length, ∀ x ∈ xs, Bnd t b x] (.c (.one (.gs d (n + xs.length) w (nb + by_.len)))) [k] [(k, none), (d, some (.gro t' b (l ++ va (t := .sl t) (t' := .sl t') h xs)))]) else .bad
            | false => .bad) else .bad
        | _ => .bad
      | a => bif vX a && Nat.ble ((2 * (0 + by_.len) + 1000) * bytes) 281474976710656 then (match h with
          | .gro t' b => bif t'.beq t && by_.e.le b then .ok [] (.c (.one (.gs d xs.length t.w by_.len))) [] [(d, some (.gro t b xs))] else .bad
          | _ => .bad) else .bad) else .bad
    | _, _ => .bad
  | _, _ => .bad
theorem TV{t:TypeId}(h:jB P t=true): ∃e,P.underlying t=some (.slice e):=by
 unfold jB at h;split at h
 .rename_i e h1;exact⟨e,h1⟩
 .cases h
theorem Hy{ts tx:TypeId}{h:MH}{d:Nat}{x y:Operand}{p v:WV}:
  HOk P (.call {callee:= .builtin .append,args:= #[x,y],argTypes:= #[ts,tx]}) ty [x,y] [p,v] bl (Kv P ts tx h bl d p v):=by
 unfold Kv;split
 .rename_i a q
  split
  .rename_i t by_ xs s0 bytes hy hb
   obtain⟨ey,oy⟩:=Ec hy
   cases hc:zOk P ts t&&jB P tx&&Nat.blt 0 bytes with
   |false=>exact trivial
   |true=>
    simp only[q4L]at hc;simp only[cond_true];obtain⟨⟨hz,htx⟩,hby⟩:=hc
    have hby:0<bytes:=by simpa using hby
    obtain⟨z,b0,e1,e2,e3,e4,e5⟩:=OY hz;rw[e2]at hb;cases hb
    obtain⟨ex,hex⟩:=TV htx;split
    .rename_i k n w nb
     split
     .rename_i t' b l hl
      cases hd:Nat.beq w t.w&&Nat.ble ((2*(nb+by_.len)+1000)*bytes) 281474976710656&&!Nat.beq d k with
      |false=>exact trivial
      |true=>
       simp only[q4L]at hd;simp only[cond_true];obtain⟨⟨hw,hbig⟩,hdk⟩:=hd;have:=q5w hw;subst this
       have hbig:=q5y hbig;have hdk:d≠k:=λe=>by subst e;simp at hdk
       split
       .split
        .rename_i hbeq htt
         have:=Ty.beq_eq htt;subst this
         have main:(∀u∈[WV.c (.one (.gs k n t.w nb)),.c (.one q)],u.ok)->(∀k b,bl k=some b->b.ok)->n=l.length->(∀x∈xs,Bnd t b x)-> ∀kin:List (Nat×WB),kin.map (·.1)=[k]->(∀p∈kin,bl p.1=some p.2)->
           OpOk P (.call {callee:= .builtin .append,args:= #[x,y],argTypes:= #[ts,tx]}) ty (List.zip [x,y] ([WV.c (.one (.gs k n t.w nb)),.c (.one q)].map WV.exp)) (kinE kin) (WV.c (.one (.gs d (n+xs.length) t.w (nb+by_.len)))).exp (LwE [(k,none),(d,some (.gro t b (l++va (t:= .sl t) (t':= .sl t) htt xs)))])/\(WV.c (.one (.gs d (n+xs.length) t.w (nb+by_.len)))).ok/\LwOk [(k,none),(d,some (.gro t b (l++va (t:= .sl t) (t':= .sl t) htt xs)))]:=by
          intro hv hbl hn hxs kin hk hkb;rw[zS hk hkb hl];have hcast:va (t:= .sl t) (t':= .sl t) htt xs=xs:=rfl;rw[hcast];have hnb:n<=nb:=(hv _ q5f).1;have hyb:=Bnd.sl (oy (hv (.c (.one q)) (by simp)).1);have hlb: ∀x∈l,Bnd t b x:=hbl k _ hl;refine⟨?_,⟨show n+xs.length<=nb+by_.len by have:=hyb.1;omega,rfl⟩,?_⟩
          .show OpOk P _ _ [(x,_),(y,(WV.c (.one q)).exp)] [(k,.grow t.w (qI t l))] (.c (.one (.gs d (n+xs.length)))) [(k,none),(d,some (.grow t.w (qI t (l++xs))))]
           rw[Gt ey,Ea,vC t xs];refine PH e2 e1 hex e5 hby e4 (jJ _ _) (by rw[zk,hn]) ?_ hdk (wG _ _ _);refine q5C (q5O _ ?_) hbig;have:=hyb.1;omega
          .intro k' b' hm
           simp only[q5d,q62,reduceCtorEq,and_false,q61,q5l,or_false,false_or]at hm;obtain⟨_,rfl⟩:=hm;intro u hu;rcases q5c.1 hu with hu|hu
           .exact hlb u hu
           .exact hxs u hu
         cases hle:by_.e.le b with
         |true=>
          simp only[cond_true];exact λhv hbl hvc kin hk hkb=>main hv hbl (hvc _ q5f) (λu hu=>Bnd.mono hle ((Bnd.sl (oy (hv (.c (.one q)) (by simp)).1)).2 u hu)) kin hk hkb
         |false=>
          simp only[cond_false];exact λhv hbl hvc kin hk hkb=>main hv hbl (hvc _ q5f) (hvc (∀x∈xs,Bnd t b x) (by simp)) kin hk hkb
        .exact trivial
       .exact trivial
     .exact trivial
    .cases hd:vX a&&Nat.ble ((2*(0+by_.len)+1000)*bytes) 281474976710656 with
     |false=>exact trivial
     |true=>
      simp only[q4L]at hd;have:=zZ hd.1;subst this
      have hbig:=q5y hd.2;simp only[cond_true];split
      .rename_i t' b
       cases htb:t'.beq t&&by_.e.le b with
       |false=>exact trivial
       |true=>
        simp only[q4L]at htb;intro hv hbl hvc kin hk hkb;rw[qg hk];have hyb:=Bnd.sl (oy (hv (.c (.one q)) (by simp)).1);refine⟨?_,⟨hyb.1,rfl⟩,zT λu hu=>Bnd.mono htb.2 (hyb.2 u hu)⟩;show OpOk P _ _ [(x,.c (.one (.val (.slice none 0 0)))),(y,(WV.c (.one q)).exp)] [] (.c (.one (.gs d xs.length))) [(d,some (.grow t.w (qI t xs)))];rw[Gt ey];refine OpOk.nilgs (k:=d+1) (s:=t.w) (by omega) rfl (wG _ _ _) ?_;have:=PH (P:=P) (ty:=ty) (x:=x) (y:=y) (k:=d+1) (d:=d) (n:=0) (m:=xs.length) (cs:=[]) (cells:=jc t xs) e2 e1 hex e5 hby e4 (jJ _ _) (by simp) (q5C (q5O _ (by have:=hyb.1;omega)) hbig) (by omega) rfl;rw[q5W,q5k,<-vC]at this;exact this
      .exact trivial
  .exact trivial
 .exact trivial
end
end
end Go.Proofs.YtamiaelfnfnegaaGreatDoor.Sx
