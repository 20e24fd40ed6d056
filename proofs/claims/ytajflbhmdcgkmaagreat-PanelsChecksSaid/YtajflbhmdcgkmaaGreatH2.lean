/-
Own laws, part 2. No condition.
-/
import Derived.Test.YtajflbhmdcgkmaaGreatH1
import Derived.Test.YtajflbhmdcgkmaaGreatProg
import Derived.KernelRfl
namespace Go.Proofs.YtajflbhmdcgkmaaGreat.Sx
open Go Go.Proofs
set_option linter.unusedVariables false
set_option linter.unusedSimpArgs false
set_option maxRecDepth 20000
set_option maxHeartbeats 4000000
noncomputable abbrev Pg:Program:= Tryz.prog
theorem hmix:Pg.follows .mixedOrders=true:=by kernel_rfl
theorem shrN{k:IntKind}(x s:Nat)(h:s<=k.bits):(x:Int).fdiv (2^(min ((s:Int).toNat) k.bits))=((x/2^s:Nat):Int):=by
 rw[q5r,q6i h,Int.fdiv_eq_ediv_of_nonneg _ (by exact Int.le_of_lt (Int.pow_pos (by omega)))];simp
theorem TL(x s:Nat)(h:s<=IntKind.bits .u64)(hx:x*2^s<18446744073709551616):IntKind.u64.wrap ((x:Int)*2^(min ((s:Int).toNat) (IntKind.bits .u64)))=((x*2^s:Nat):Int):=by
 rw[q5r,q6i h];have:(x:Int)*2^s=((x*2^s:Nat):Int):=by simp
 rw[this];exact Ak hx
theorem AB(a b:List Nat):qa (a++b)=qa a+4294967296^a.length*qa b:=by
 induction a with
 |nil=>simp[qa]
 |cons u r ih=>
  simp only[List.cons_append,qa,ih,q5H,q6x];rw[q6m,<-q6n,q6o 4294967296 (4294967296^r.length)];omega
theorem Bw{ls:List Nat}{n:Nat}(h:n<ls.length):qa (ls.take (n+1))=qa (ls.take n)+4294967296^n*ls.getD n 0:=by
 rw[q60 h,AB,q5L,q6i (by omega)];simp[qa,q5y,h]
theorem Mb(a:List Nat)(u:Nat)(h:u≠0):Aq (a++[u])=true:=by
 induction a with
 |nil=>simp[Aq,h]
 |cons v r ih=>rw[List.cons_append,EG (by simp)];exact ih
theorem Pf{ls:List Nat}{n:Nat}(hn:n<=ls.length)(h:n=0\/ls.getD (n-1) 0≠0):Aq (ls.take n)=true:=by
 rcases h with rfl|h
 .rfl
 .by_cases e:n=0
  .subst e;rfl
  .have h1:n-1<ls.length:=by omega
   have h2:ls.take n=ls.take (n-1)++[ls[n-1]]:=by
    rw[<-q60 h1];congr 1;omega
   rw[h2];refine Mb _ _ ?_;simpa[q5y,h1]using h
theorem NP{ls:List Nat}{b n:Nat}(h: ∀u∈ls,u<b): ∀u∈ls.take n,u<b:=λu hu=>h u (q5T hu)
theorem Ai{ls:List Nat}{n:Nat}(hu: ∀u∈ls,u<4294967296)(hn:n<=ls.length)(hv:qa (ls.take n)=qa ls)(h:n=0\/ls.getD (n-1) 0≠0):ls.take n=limbs (qa ls):=by
 rw[<-hv,Ez (NP hu) (Pf hn h)]
theorem Fv{ls:List Nat}{n:Nat}(hn:n<=ls.length)(h0:0<n)(hv:qa (ls.take n)=qa ls)(h:ls.getD (n-1) 0=0):qa (ls.take (n-1))=qa ls:=by
 have:=Bw (ls:=ls) (n:=n-1) (by omega);rw[show n-1+1=n by omega,h]at this;omega
theorem zb{ls:List Nat}{b:Nat}(hb:0<b)(h: ∀u∈ls,u<b)(i:Nat):ls.getD i 0<b:=by
 rw[q5y]
 cases hq:ls[i]? with
 |none=>simpa using hb
 |some u=>exact h u (q5S hq)
section
variable {P:Program}
theorem SO{t ty:TypeId}{s b len d:Nat}{z:Array Value}{zs cs:List Atom}{parts:Array (Nat×Operand)}{vs:List Cmp}
  (hb:elB P t=some (s,b))(hz:elZ P t=some z)(hbig:Nat.ble (len*s) 16777216=true)(hzs:vT (BK (len*s) z)=some zs)(hl:parts.size=vs.length)
  (hf:afill (Bh s) zs (List.zip (parts.toList.map (·.1)) vs)=some cs)(hm:jA d cs=false)(hcl:cs.length=len*s):
  OpOk P (.buildSlice t len parts) ty (List.zip (parts.toList.map (·.2)) (vs.map AV.c)) [] (.c (.one (.gs d len))) [(d,some (.grow s cs))]:=by
 intro dst pos after guard a w H β K Q hins _ _ hon hK;obtain⟨T,arr,hrun,hsat⟩:=Av (a:=a) (β:=β) (H:=H) hb hz hbig hzs hl hf hins w;unfold Oper.wp
 have:(execOp a.eval ⟨dst,.buildSlice t len parts,ty,pos,after,guard⟩).run P w= .ok (.value (.slice (some ⟨w.heap.size,0,none⟩) len len)) (w.alloc (.cells arr T)):=by
  simp only[execOp,q6H,hrun,q6G,q6I]
 rw[this];have hlen:cs.length=arr.toList.length:=hsat.length;have hlen2:arr.toList.length=arr.size:=Array.length_toList;refine hK _ _ H (β.set d (some (w.heap.size,len))) ?_ (.inr ⟨_,_,Bm.set_same _ _ _,rfl⟩) ?_
 .simpa[kwOf,qX,vg,look]using Step.alloc (β:=β) d len (.cells arr T) hon
 .intro k' b' hb'
  simp only[q5U,q6F,q6E]at hb';obtain⟨rfl,rfl⟩:=hb';refine .inr ⟨w.heap.size,len,arr,T,Bm.set_same _ _ _,wG w _,by omega,by omega,Sats.congr (Heap.Le.refl _) (λk'' hk''=>?_) (by rw[hlen,q5Y];exact hsat)⟩;refine Bm.set_other _ _ λe=>?_
  subst e;rw[hm]at hk'';cases hk''
theorem C0(ρ:Nat->Nat)(cells:List CAtom):(cells.map CAtom.up).map (Atom.map ρ)=cells.map CAtom.up:=by
 rw[List.map_map];refine List.map_congr_left λa _=>?_
 cases a<;>rfl
theorem flnil{H:Heap}:(flP [] 0).p H (.slice none 0 0):=⟨none,0,rfl,q6d _,.inl rfl⟩
section
variable {ts tx ty ex:TypeId} {x y:Operand} {k d n m bytes:Nat}
end
end
section
def FzAt(k:Nat)(cells:List CAtom)(g:Option Nat)(β:Bm)(H:Heap):Prop:=
 (β k=none/\cells=[])\/ ∃b c arr,β k=some (b,c)/\H b=some arr/\CSats H cells (arr.toList.take cells.length)/\ ∀es,g=some es->cells.length<=c*es
section
variable (k:Nat) (cells:List CAtom) (g:Option Nat)
def RelA(a a':Atom):Prop:= ∀β H H' v,Heap.Le H H'->FzAt k cells g β H'->a.sat β H v->a'.sat β H' v
def RelAs:List Atom->List Atom->Prop
 |[],[]=>True
 |a::r,a'::r'=>RelA k cells g a a'/\RelAs r r'
 |_,_=>False
def RelV(a a':AV):Prop:= ∀β H H' v,Heap.Le H H'->FzAt k cells g β H'->a.sat β H v->a'.sat β H' v
def RelB(b b':Blk):Prop:=(∃l l',b= .rigid l/\b'= .rigid l'/\RelAs k cells g l l')\/(∃e l l',b= .grow e l/\b'= .grow e l'/\RelAs k cells g l l')\/(∃l,b= .mp l/\b'= .mp l)\/(∃l,b= .mc l/\b'= .mc l)
end
variable {k:Nat} {cells:List CAtom} {g:Option Nat}
theorem XA{a:Atom}:RelA k cells g a a:=λβ H H' v hle _ h=>Atom.sat_congr hle (λ_ _=>rfl) h
theorem Bq: ∀{l:List Atom},RelAs k cells g l l
 |[]=>trivial
 |_::_=>⟨XA,Bq⟩
theorem Gn{a:AV}:RelV k cells g a a:=λβ H H' v hle _ h=>AV.sat_congr hle (λ_ _=>rfl) h
theorem RelAs.sats{β:Bm}{H H':Heap}(hle:Heap.Le H H')(hf:FzAt k cells g β H'): ∀{l l':List Atom}{vs:List Value},RelAs k cells g l l'->Sats β H l vs->Sats β H' l' vs
 |[],[],[],_,_=>trivial
 |_::_,_::_,_::_,h,hs=>⟨h.1 _ _ _ _ hle hf hs.1,RelAs.sats hle hf h.2 hs.2⟩
 |[],[],_::_,_,hs=>hs.elim
 |_::_,_::_,[],_,hs=>hs.elim
theorem RelAs.length: ∀{l l':List Atom},RelAs k cells g l l'->l.length=l'.length
 |[],[],_=>rfl
 |_::_,_::_,h=>by simp[RelAs.length h.2]
 |[],_::_,h=>h.elim
 |_::_,[],h=>h.elim
theorem RW{a a':Atom}(h:RelA k cells g a a'):RelV k cells g (.c (.one a)) (.c (.one a')):=λβ H H' v hle hf hs=>h β H H' v hle hf hs
theorem q2Y{l l':List Atom}(h:RelAs k cells g l l'):RelV k cells g (.c (.agg l)) (.c (.agg l')):=λβ H H' v hle hf⟨arr,h1,h2⟩=>⟨arr,h1,RelAs.sats hle hf h h2⟩
theorem Jm{b:Blk}:RelB k cells g b b:=by
 cases b with
 |rigid l=>exact .inl ⟨l,l,rfl,rfl,Bq⟩
 |grow e l=>exact .inr (.inl ⟨e,l,l,rfl,rfl,Bq⟩)
 |mp l=>exact .inr (.inr (.inl ⟨l,rfl,rfl⟩))
 |mc l=>exact .inr (.inr (.inr ⟨l,rfl,rfl⟩))
theorem Tu{l l':List Atom}(h:RelAs k cells g l l'):RelB k cells g (.rigid l) (.rigid l'):= .inl ⟨l,l',rfl,rfl,h⟩
theorem RelB.rep{β:Bm}{w:World}{H H':Heap}{q:Nat}{b b':Blk}(h:RelB k cells g b b')(hle:Heap.Le H H')(hf:FzAt k cells g β H')(hr:b.rep β w H q):b'.rep β w H' q:=by
 rcases h with⟨l,l',rfl,rfl,h⟩|⟨e,l,l',rfl,rfl,h⟩|⟨l,rfl,rfl⟩|⟨l,rfl,rfl⟩
 .obtain⟨b,c,arr,T,h1,h2,h3⟩:=hr
  exact⟨b,c,arr,T,h1,h2,RelAs.sats hle hf h h3⟩
 .have hl:=RelAs.length h
  rcases hr with⟨h1,h2⟩|⟨b,c,arr,T,h1,h2,h3,h4,h5⟩
  .refine .inl ⟨h1,?_⟩
   subst h2;exact List.length_eq_zero_iff.1 hl.symm
  .exact .inr ⟨b,c,arr,T,h1,h2,h3,by rw[<-hl];exact h4,by rw[<-hl];exact RelAs.sats hle hf h h5⟩
 .exact hr
 .exact Blk.rep_congr hr hle (λ_ _=>rfl) (λ_ _ _=>rfl)
theorem LO{n:Nat}{Ks:List Nat}{st st':ASt}(hk:Nat.blt k 100000=true)(hKs: ∀k0∈Ks,look st.L k0≠none)
  (hL:(g=none/\look st.L k=some (.rigid (cells.map CAtom.up)))\/ ∃es,g=some es/\look st.L k=some (.grow es (cells.map CAtom.up)))
  (hm: ∀t av',look st'.m t=some av'-> ∃av,look st.m t=some av/\RelV k cells g av av')
  (hL': ∀q b,look st'.L q=some b->q≠k/\ ∃b0,look st.L q=some b0/\RelB k cells g b0 b):Ent n Ks st st':=by
 have hk:k<100000:=by simpa using hk
 intro E hn hK a w H β hr;have hkK:k∉E.Ks:=λh=>by have:=E.hKs k h;omega
 have hblk:(β k=none/\cells=[])\/ ∃b c arr T x,β k=some (b,c)/\j9 st (2*k+1)=some (.bl x)/\w.heap[b]?=some (.cells arr T (0,0))/\CSats H cells (arr.toList.take cells.length)/\ ∀es,g=some es->cells.length<=c*es:=by
  rcases hL with⟨hg,hL⟩|⟨es,hg,hL⟩
  .have hx:j9 st (2*k+1)=some (.bl (.rigid (cells.map CAtom.up))):=by rw[qz,hL];rfl
   obtain⟨b,c,arr,T,h1,h2,h3⟩:=hr.blk k _ hx;have hlen:=Sats.length h3;simp at hlen;exact .inr ⟨b,c,arr,T,_,h1,hx,h2,by rw[q5Z (by simp;omega)];exact CSats.of_up h3,by subst hg;intro es h;cases h⟩
  .have hx:j9 st (2*k+1)=some (.bl (.grow es (cells.map CAtom.up))):=by rw[qz,hL];rfl
   rcases hr.blk k _ hx with⟨h1,h2⟩|⟨b,c,arr,T,h1,h2,h3,h4,h5⟩
   .exact .inl ⟨h1,by simpa using h2⟩
   .rw[q5J]at h5 h4
    exact .inr ⟨b,c,arr,T,_,h1,hx,h2,CSats.of_up h5,by subst hg;intro es' h;cases h;omega⟩
 rcases hblk with⟨hβ,hnil⟩|⟨b,c,arr,T,x,hβ,hx,hw,hsat,hcap⟩
 .have hf:FzAt k cells g β H:= .inl ⟨hβ,hnil⟩
  refine⟨H,β,⟨hr.defers,hr.size,?_,?_,?_,?_,hr.bor,hr.os,hr.tape,hr.output,hr.wsize,hr.frame,hr.hle,hr.hnew,hr.hon⟩⟩
  .intro t av ht
   rw[jy]at ht
   cases hl:look st'.m t with
   |none=>rw[hl]at ht;cases ht
   |some av1=>
    rw[hl]at ht;simp at ht;subst ht
    obtain⟨av0,h1,h2⟩:=hm _ _ hl;obtain⟨v,hv,hs⟩:=hr.slot t av0 (by rw[jy,h1];rfl);exact⟨v,hv,h2 β H H v (Heap.Le.refl _) hf hs⟩
  .intro q y hy
   rw[qz]at hy
   cases hl:look st'.L q with
   |none=>rw[hl]at hy;cases hy
   |some y'=>
    rw[hl]at hy;simp at hy;subst hy
    obtain⟨_,b0,h1,h2⟩:=hL' q _ hl;exact h2.rep (Heap.Le.refl _) hf (hr.blk q _ (by rw[qz,h1];rfl))
  .intro q y b' c' hy
   rw[qz]at hy
   cases hl:look st'.L q with
   |none=>rw[hl]at hy;cases hy
   |some y'=>
    obtain⟨_,b0,h1,h2⟩:=hL' q _ hl;exact hr.own q b0 b' c' (by rw[qz,h1];rfl)
  .intro q q' y y' b' c1 c2 hy hy' hne
   rw[qz]at hy hy'
   cases hl:look st'.L q with
   |none=>rw[hl]at hy;cases hy
   |some y1=>
    cases hl':look st'.L q' with
    |none=>rw[hl']at hy';cases hy'
    |some y1'=>
     obtain⟨_,b0,h1,_⟩:=hL' q _ hl;obtain⟨_,b1,h2,_⟩:=hL' q' _ hl';exact hr.inj q q' b0 b1 b' c1 c2 (by rw[qz,h1];rfl) (by rw[qz,h2];rfl) hne
 .obtain⟨o1,o2,o3⟩:=hr.own k x b c hx hβ
  have hle:=Heap.set_le arr o1;have hf:FzAt k cells g β (H.set b arr):= .inr ⟨b,c,arr,hβ,Heap.set_at _ _ _,hsat.mono hle,hcap⟩
  have hnotK:E.w0.heap.size<=b:=by
   rcases o3 with o3|⟨k0,hk0,c0,o3⟩
   .exact o3
   .exfalso
    have h1:=hKs k0 (by rw[<-hK];exact hk0)
    cases hl:look st.L k0 with
    |none=>exact h1 hl
    |some y=>
     have hne:k≠k0:=λe=>hkK (e▸hk0)
     exact hr.inj k k0 x y b c c0 hx (by rw[qz,hl];rfl) hne hβ (by rw[hr.bor k0 hk0];exact o3)
  refine⟨H.set b arr,β,⟨hr.defers,hr.size,?_,?_,?_,?_,hr.bor,hr.os,hr.tape,hr.output,hr.wsize,hr.frame,hr.hle.trans hle,?_,?_⟩⟩
  .intro t av ht
   rw[jy]at ht
   cases hl:look st'.m t with
   |none=>rw[hl]at ht;cases ht
   |some av1=>
    rw[hl]at ht;simp at ht;subst ht
    obtain⟨av0,h1,h2⟩:=hm _ _ hl;obtain⟨v,hv,hs⟩:=hr.slot t av0 (by rw[jy,h1];rfl);exact⟨v,hv,h2 β H _ v hle hf hs⟩
  .intro q y hy
   rw[qz]at hy
   cases hl:look st'.L q with
   |none=>rw[hl]at hy;cases hy
   |some y'=>
    rw[hl]at hy;simp at hy;subst hy
    obtain⟨_,b0,h1,h2⟩:=hL' q _ hl;exact h2.rep hle hf (hr.blk q _ (by rw[qz,h1];rfl))
  .intro q y b' c' hy hβ'
   rw[qz]at hy
   cases hl:look st'.L q with
   |none=>rw[hl]at hy;cases hy
   |some y'=>
    obtain⟨hqk,b0,h1,_⟩:=hL' q _ hl;have hq:j9 st (2*q+1)=some (.bl b0):=by rw[qz,h1];rfl
    obtain⟨p1,p2,p3⟩:=hr.own q b0 b' c' hq hβ';refine⟨?_,p2,p3⟩
    have hne:b'≠b:=by
     intro e;subst e
     exact hr.inj q k b0 x b' c' c hq hx hqk hβ' hβ
    simp only[Heap.set,if_neg hne];exact p1
  .intro q q' y y' b' c1 c2 hy hy' hne
   rw[qz]at hy hy'
   cases hl:look st'.L q with
   |none=>rw[hl]at hy;cases hy
   |some y1=>
    cases hl':look st'.L q' with
    |none=>rw[hl']at hy';cases hy'
    |some y1'=>
     obtain⟨_,b0,h1,_⟩:=hL' q _ hl;obtain⟨_,b1,h2,_⟩:=hL' q' _ hl';exact hr.inj q q' b0 b1 b' c1 c2 (by rw[qz,h1];rfl) (by rw[qz,h2];rfl) hne
  .intro b' hb'
   by_cases e:b'=b
   .exact .inr (by omega)
   .simp only[Heap.set,if_neg e]at hb';exact hr.hnew b' hb'
  .intro b' cs hb'
   by_cases e:b'=b
   .subst e
    rw[Heap.set_at]at hb';cases hb'
    exact⟨T,(0,0),hw⟩
   .simp only[Heap.set,if_neg e]at hb';exact hr.hon b' cs hb'
theorem Pn{off n cap es l:Nat}{cells':List CAtom}(ho:off=l*es)(hc:n<=cap)(hl:l*es+n*es<=cells.length)(hcut:(cells.drop (l*es)).take (n*es)=cells'):
  RelA k cells g (.sl k off n cap) (.abs (flP cells' n)):=by
 rintro β H H' v hle hf ⟨b,c,hβ,rfl⟩
 rcases hf with⟨h1,_⟩|⟨b2,c2,arr,h1,h2,h3,h4⟩
 .rw[hβ]at h1;cases h1
 .rw[hβ]at h1;cases h1
  refine⟨_,cap,rfl,hc,.inr ⟨b,off,arr,rfl,h2,?_⟩⟩;have:=(h3.drop (l*es)).take (n*es);have e1:cells'.length=n*es:=by rw[<-hcut];simp;omega
  rw[List.drop_take,q61,q6i (by omega),hcut]at this;rw[e1,ho];exact this
theorem q4U{n es:Nat}(he:g=some es)(h0:0<es)(hl:n*es=cells.length):RelA k cells g (.gs k n) (.abs (flP cells n)):=by
 intro β H H' v hle hf hs;rcases hf with⟨h1,hnil⟩|⟨b2,c2,arr,h1,h2,h3,h4⟩
 .rcases hs with⟨_,rfl,rfl⟩|⟨b,c,hβ,_⟩
  .exact⟨none,0,rfl,q6d _,.inl hnil⟩
  .rw[hβ]at h1;cases h1
 .rcases hs with⟨hβ,_⟩|⟨b,c,hβ,rfl⟩
  .rw[hβ]at h1;cases h1
  .rw[hβ]at h1;cases h1
   have:=h4 es he;rw[<-hl]at this;exact⟨_,_,rfl,Nat.le_of_mul_le_mul_right this h0,.inr ⟨_,0,arr,rfl,h2,by simpa using h3⟩⟩
theorem q2O{off m:Nat}{row:List CAtom}(h:off+m<=cells.length)(hr:(cells.drop off).take m=row):RelA k cells g (.loc k off) (.ptr row):=by
 rintro β H H' v hle hf ⟨b,c,hβ,rfl⟩
 rcases hf with⟨h1,_⟩|⟨b2,c2,arr,h1,h2,h3,h4⟩
 .rw[hβ]at h1;cases h1
 .rw[hβ]at h1;cases h1
  refine⟨b,off,arr,rfl,h2,?_⟩;have e1:row.length=m:=by rw[<-hr];simp;omega
  have:=(h3.drop off).take m;rw[List.drop_take,q61,q6i (by omega),hr]at this;rw[e1];exact this
def AImp(a b:Atom):Prop:= ∀β H v,a.sat β H v->b.sat β H v
def AImps:List Atom->List Atom->Prop
 |[],[]=>True
 |a::r,b::s=>AImp a b/\AImps r s
 |_,_=>False
def CImp(a b:Cmp):Prop:= ∀β H v,a.sat β H v->b.sat β H v
def CImps:List Cmp->List Cmp->Prop
 |[],[]=>True
 |a::r,b::s=>CImp a b/\CImps r s
 |_,_=>False
theorem AImps.sats{β:Bm}{H:Heap}: ∀{l l':List Atom}{vs:List Value},AImps l l'->Sats β H l vs->Sats β H l' vs
 |[],[],[],_,_=>trivial
 |_::_,_::_,_::_,h,hs=>⟨h.1 _ _ _ hs.1,AImps.sats h.2 hs.2⟩
 |[],[],_::_,_,hs=>hs.elim
 |_::_,_::_,[],_,hs=>hs.elim
theorem CImps.sats{β:Bm}{H:Heap}: ∀{l l':List Cmp}{vs:List Value},CImps l l'->CmpSats β H l vs->CmpSats β H l' vs
 |[],[],[],_,_=>trivial
 |_::_,_::_,_::_,h,hs=>⟨h.1 _ _ _ hs.1,CImps.sats h.2 hs.2⟩
 |[],[],_::_,_,hs=>hs.elim
 |_::_,_::_,[],_,hs=>hs.elim
theorem Nj{a:Atom}:AImp a a:=λ_ _ _ h=>h
theorem LC{a b:Atom}(h:AImp a b):CImp (.one a) (.one b):=h
theorem HK{l l':List Atom}(h:AImps l l'):CImp (.agg l) (.agg l'):=λβ H v⟨arr,h1,h2⟩=>⟨arr,h1,AImps.sats h h2⟩
theorem Ue{a b:Cmp}(h:a=b):CImp a b:=λ_ _ _ k=>h▸k
theorem IX{a:Cmp}:CImp a a:=λ_ _ _ h=>h
theorem G0{a b:Cmp}(h:CImp a b): ∀β H v,(AV.c a).sat β H v->(AV.c b).sat β H v:=h
theorem WY{l l':List Cmp}(h:CImps l l'): ∀β H v,(AV.tup l).sat β H v->(AV.tup l').sat β H v:=λβ H v⟨arr,h1,h2⟩=>⟨arr,h1,CImps.sats h h2⟩
def VImps:List AV->List AV->Prop
 |[],[]=>True
 |a::r,b::s=>(∀β H v,a.sat β H v->b.sat β H v)/\VImps r s
 |_,_=>False
theorem VImps.avs{β:Bm}{H:Heap}: ∀{l l':List AV}{vs:List Value},VImps l l'->AVs β H l vs->AVs β H l' vs
 |[],[],[],_,_=>trivial
 |_::_,_::_,_::_,h,hs=>⟨h.1 _ _ _ hs.1,VImps.avs h.2 hs.2⟩
 |[],[],_::_,_,hs=>hs.elim
 |_::_,_::_,[],_,hs=>hs.elim
theorem JF{a:AV}: ∀β H v,a.sat β H v->a.sat β H v:=λ_ _ _ h=>h
theorem Bs{P:Program}{f:FuncId}{ps ps':List AV}{kin:List (Nat×Blk)}{R:AV}{Lw:List (Nat×Option Blk)}(hi:VImps ps' ps)(h:vQ P f ps kin R Lw):vQ P f ps' kin R Lw:=
 ⟨h.1,λvs w H β ha=>h.2 vs w H β (hi.avs ha)⟩
def ren(K k:Nat):Nat->Nat:=λq=>if q=K then k else q
theorem Jv{P:Program}{f:FuncId}{ps ps':List AV}{K k:Nat}{x y x' y':Blk}{R R':AV}(h:vQ P f ps [(K,x)] R [(K,some y)])
  (ha:ps.map (AV.map (ren K k))=ps')(hx:x.map (ren K k)=x')(hR:R.map (ren K k)=R')(hy:y.map (ren K k)=y'):vQ P f ps' [(k,x')] R' [(k,some y')]:=by
 subst ha hx hR hy;have hρ:ren K k K=k:=by simp[ren]
 refine⟨h.1,λvs w H β hargs hkin hdis hon=>?_⟩
 have hargs':AVs (λq=>β (ren K k q)) H ps vs:=by
  clear hkin hdis
  induction ps generalizing vs with
  |nil=>cases vs with
   |nil=>trivial
   |cons=>exact hargs.elim
  |cons a r ih=>cases vs with
   |nil=>exact hargs.elim
   |cons v vs=>
    refine⟨AV.sat_map.1 hargs.1,?_⟩;clear ih h;have hr:=hargs.2;clear hargs
    induction r generalizing vs with
    |nil=>cases vs with
     |nil=>trivial
     |cons=>exact hr.elim
    |cons a r ih=>cases vs with
     |nil=>exact hr.elim
     |cons v vs=>exact⟨AV.sat_map.1 hr.1,ih vs hr.2⟩
 have hk1:kwOf [(k,x.map (ren K k))] [(k,some (y.map (ren K k)))]=[k]:=by simp[kwOf,look]
 have hk2:qX [(k,x.map (ren K k))] [(k,some (y.map (ren K k)))]=[]:=by simp[qX,look]
 have hK1:kwOf [(K,x)] [(K,some y)]=[K]:=by simp[kwOf,look]
 have hK2:qX [(K,x)] [(K,some y)]=[]:=by simp[qX,look]
 refine Calls.mono (h.2 vs w H (λq=>β (ren K k q)) hargs' ?_ ?_ hon) ?_
 .intro p hp
  simp only[q5U]at hp;subst hp
  obtain⟨h1,h2⟩:=hkin (k,x.map (ren K k)) (by simp);refine⟨Blk.rep_map.1 (by rw[hρ];exact h1),λb c hb=>?_⟩;exact h2 b c (by simpa[hρ]using hb)
 .intro p hp p' hp' hne
  simp only[q5U]at hp hp';subst hp;subst hp';exact absurd rfl hne
 .rintro e w' ⟨v,H',β',he,hs,hv,hb⟩
  have hβ:β'=λq=>β (ren K k q):=funext λq=>hs.beta q (by rw[hK2];simp)
  subst hβ;refine⟨v,H',β,he,⟨hs.os,hs.tape,hs.output,hs.size,?_,hs.hle,hs.hnew,hs.hon,λ_ _=>rfl,?_,?_⟩,AV.sat_map.2 hv,?_⟩
  .intro b hbs hne
   refine hs.keep b hbs ?_;rw[hK1];rw[hk1]at hne
   intro q hq c;simp only[q5U]at hq;subst hq
   simpa[hρ]using hne k (by simp) c
  .rw[hk2];intro q hq;simp at hq
  .rw[hk2];intro q hq;simp at hq
  .intro q b hqb
   simp only[q5U,q6F,q6E]at hqb;obtain⟨rfl,rfl⟩:=hqb;have:=Blk.rep_map.2 (hb K y (by simp))
   rwa [hρ]at this
end
abbrev BB:Nat:=4294967296
theorem j6(ls:List Nat)(n:Nat):qa (ls.take (n+1))=qa (ls.take n)+4294967296^n*ls.getD n 0:=by
 rcases q6h n ls.length with h|h
 .exact Bw h
 .rw[q5Z (by omega),q5Z h]
  simp[q5y,q5D h]
theorem Kq(ls:List Nat)(n x:Nat)(h:n<ls.length):(ls.set n x).take (n+1)=ls.take n++[x]:=by
 rw[q60 (by simpa using h),List.take_set,List.getElem_set_self,List.set_eq_of_length_le (by simp;omega)]
theorem zh{ls:List Nat}{n x:Nat}(h:n<ls.length):qa ((ls.set n x).take (n+1))=qa (ls.take n)+4294967296^n*x:=by
 rw[Kq ls n x h,AB,q5L,q6i (by omega)];simp[qa]
theorem vF{ls:List Nat}{b n x:Nat}(h: ∀u∈ls,u<b)(hx:x<b): ∀u∈ls.set n x,u<b:=by
 intro u hu;rcases List.mem_or_eq_of_mem_set hu with h'|rfl
 .exact h u h'
 .exact hx
theorem rep_lt(n:Nat): ∀u∈List.replicate n 0,u<4294967296:=by
 intro u hu;rw[List.eq_of_mem_replicate hu];omega
theorem qc(x i:Nat):(limbs x).getD i 0<4294967296:=zb (by omega) (jr x) i
theorem vE{ls:List Nat}{n:Nat}(h:ls.length<=n):ls.take n=ls:=q5Z h
theorem zU{x y:Nat}(h:x<=y):(limbs x).length<=(limbs y).length:=Xl h
theorem AS:limbs 1=[1]:=by rw[zz (by omega)];rfl
theorem q29:(limbs 1).length=1:=by rw[AS];rfl
def j3(x y:Nat):Int:=if x<y then-1 else if x=y then 0 else 1
theorem HM{x y:Nat}(h:(limbs x).length<(limbs y).length):x<y:=by
 rcases q6h x y with h'|h'
 .exact h'
 .have:=zU h';omega
theorem Ay(ls:List Nat)(i:Nat):qa ls=qa (ls.take i)+4294967296^(min i ls.length)*qa (ls.drop i):=by
 conv=>lhs;rw[<-List.take_append_drop i ls]
 rw[AB,q5L]
theorem wE{ls:List Nat}(h: ∀u∈ls,u<4294967296){i:Nat}(hi:i<=ls.length):qa (ls.take i)<4294967296^i:=by
 have:=vH (ls.take i) (NP h)
 rwa [q5L,q6i hi]at this
theorem LG{x y i:Nat}(hl:(limbs x).length=(limbs y).length)(hi:i<(limbs x).length)(ha:(limbs x).drop (i+1)=(limbs y).drop (i+1)):
  ((limbs x).getD i 0=(limbs y).getD i 0->(limbs x).drop i=(limbs y).drop i)/\((limbs x).getD i 0<(limbs y).getD i 0->x<y):=by
 have e: ∀z,i<(limbs z).length->(limbs z).drop i=(limbs z).getD i 0::(limbs z).drop (i+1):=by
  intro z hz;rw[List.drop_eq_getElem_cons hz];simp[q5y,hz]
 constructor
 .intro h
  rw[e x hi,e y (by omega),ha,h]
 .intro h
  have v: ∀z,i<(limbs z).length->z=qa ((limbs z).take i)+4294967296^i*((limbs z).getD i 0+4294967296*qa ((limbs z).drop (i+1))):=by
   intro z hz;have h1:=Ay (limbs z) i;rw[qN,q6i (by omega),e z hz,qa]at h1;exact h1
  have h1:=v x hi;have h2:=v y (by omega);have h3:=wE (jr x) (i:=i) (by omega);rw[ha]at h1
  have h4:4294967296^i*((limbs x).getD i 0+4294967296*qa ((limbs y).drop (i+1)))+4294967296^i<=4294967296^i*((limbs y).getD i 0+4294967296*qa ((limbs y).drop (i+1))):=by
   rw[<-Nat.mul_succ];exact q6q _ (by omega)
  omega
theorem q0W{x y:Nat}(h:(limbs x).drop 0=(limbs y).drop 0):x=y:=by
 have:=congrArg qa h;simpa[qN]using this
structure AddI (x y i c:Nat) (out:List Nat):Prop where
 hi:i<=(limbs x).length
 hl:out.length=(limbs x).length+1
 hu: ∀u∈out,u<4294967296
 hc:c<=1
 hv:qa (out.take i)+4294967296^i*c=qa ((limbs x).take i)+qa ((limbs y).take i)
theorem AddI.start(x y:Nat):AddI x y 0 0 (List.replicate ((limbs x).length+1) 0):=⟨by omega,by simp,rep_lt _,by omega,by simp[qa]⟩
theorem AddI.step{x y i c s:Nat}{out:List Nat}(h:AddI x y i c out)(hi:i<(limbs x).length)(hs:s=c+(limbs x).getD i 0+(limbs y).getD i 0):
  AddI x y (i+1) (s/4294967296) (out.set i (s%4294967296)):=by
 have h1:=qc x i;have h2:=qc y i;have hlen:=h.hl;refine⟨hi,by simp[h.hl],vF h.hu (q6k _ (by omega)),by have:=h.hc;omega,?_⟩;rw[zh (by omega),j6,j6,q6x];have:=h.hv
 have e:4294967296^i*(s%4294967296)+4294967296^i*4294967296*(s/4294967296)=4294967296^i*s:=by
  rw[q6n,<-q6m,Nat.mod_add_div]
 rw[q62,e,hs,q6m,q6m];omega
theorem AddI.fin{x y c:Nat}{out:List Nat}(h:AddI x y (limbs x).length c out)(hyx:(limbs y).length<=(limbs x).length):
  qa (out.set (limbs x).length (c%4294967296))=x+y/\(∀u∈out.set (limbs x).length (c%4294967296),u<4294967296):=by
 have hlen:=h.hl;refine⟨?_,vF h.hu (q6k _ (by omega))⟩;have h1:=zh (ls:=out) (n:=(limbs x).length) (x:=c%4294967296) (by omega);rw[vE (by simp;omega)]at h1;have:=h.hv;rw[vE (q6d _),vE hyx,qN,qN]at this;have hc:=h.hc;rw[q6j (by omega)]at h1⊢;omega
structure SubI (x y i c:Nat) (out:List Nat):Prop where
 hi:i<=(limbs x).length
 hl:out.length=(limbs x).length
 hu: ∀u∈out,u<4294967296
 hc:c<=1
 hv:qa (out.take i)+qa ((limbs y).take i)=qa ((limbs x).take i)+4294967296^i*c
theorem SubI.start(x y:Nat):SubI x y 0 0 (List.replicate (limbs x).length 0):=⟨by omega,by simp,rep_lt _,by omega,by simp[qa]⟩
theorem Qo: ∃f:Nat->Nat->Nat,∀a s,f a s=(a+18446744073709551616-s)%18446744073709551616:=⟨_,λ_ _=>rfl⟩
noncomputable def dif:Nat->Nat->Nat:=Classical.choose Qo
theorem DL(a s:Nat):dif a s=(a+18446744073709551616-s)%18446744073709551616:=Classical.choose_spec Qo a s
theorem SubI.step{x y i c s:Nat}{out:List Nat}(h:SubI x y i c out)(hi:i<(limbs x).length)(hs:s=c+(limbs y).getD i 0):
  SubI x y (i+1) (dif ((limbs x).getD i 0) s/9223372036854775808) (out.set i (dif ((limbs x).getD i 0) s%4294967296)):=by
 have h1:=qc x i;have h2:=qc y i;have hlen:=h.hl;have hc:=h.hc;simp only[DL];generalize hx:(limbs x).getD i 0=a at*;generalize hy:(limbs y).getD i 0=b at*;have key:(a+18446744073709551616-s)%18446744073709551616%4294967296+s=a+4294967296*((a+18446744073709551616-s)%18446744073709551616/9223372036854775808):=by omega
 refine⟨hi,by simp[h.hl],vF h.hu (q6k _ (by omega)),by omega,?_⟩;rw[zh (by omega),j6,j6,q6x,hx,hy];have:=h.hv;generalize(a+18446744073709551616-s)%18446744073709551616/9223372036854775808=q at*;generalize(a+18446744073709551616-s)%18446744073709551616%4294967296=r at*;have e:=congrArg (4294967296^i* ·) key;simp only[q6m,hs]at e;rw[q6n];omega
theorem SubI.fin{x y c:Nat}{out:List Nat}(h:SubI x y (limbs x).length c out)(hxy:y<=x):qa out=x-y/\(∀u∈out,u<4294967296):=by
 have hyx:=zU hxy;refine⟨?_,h.hu⟩;have:=h.hv;rw[vE (by rw[h.hl];exact q6d _),vE (q6d _),vE hyx,qN,qN]at this;have h1:=vH out h.hu;rw[h.hl]at h1;have hc:=h.hc;rcases q69 c with e|e
 .subst e;omega
 .have:c=1:=by omega
  subst this;omega
structure MulI (x y i:Nat) (out:List Nat):Prop where
 hi:i<=(limbs x).length
 hl:out.length=(limbs x).length+(limbs y).length
 hu: ∀u∈out,u<4294967296
 hv:qa out=qa ((limbs x).take i)*y
 hz: ∀j,i+(limbs y).length<=j->out.getD j 0=0
structure MulJ (x y i a j c:Nat) (o0 out:List Nat):Prop where
 hj:j<=(limbs y).length
 hl:out.length=(limbs x).length+(limbs y).length
 hu: ∀u∈out,u<4294967296
 hc:c<4294967296
 hlo:out.drop (i+j)=o0.drop (i+j)
 hv:qa (out.take (i+j))+4294967296^(i+j)*c=qa (o0.take (i+j))+4294967296^i*(a*qa ((limbs y).take j))
theorem MulI.start(x y:Nat):MulI x y 0 (List.replicate ((limbs x).length+(limbs y).length) 0):=by
 refine⟨by omega,by simp,rep_lt _,?_,?_⟩
 .have: ∀n,qa (List.replicate n 0)=0:=by
   intro n;induction n with
   |zero=>rfl
   |succ n ih=>simp[List.replicate_succ,qa,ih]
  rw[this];simp[qa]
 .intro j _
  rw[q5y,List.getElem?_replicate];split<;>rfl
theorem MulJ.start{x y i a:Nat}{out:List Nat}(h:MulI x y i out):MulJ x y i a 0 0 out out:=⟨by omega,h.hl,h.hu,by omega,rfl,by simp[qa]⟩
theorem zQ(l:List Nat)(k:Nat):l.getD k 0=(l.drop k).getD 0 0:=by simp[q5y]
theorem MulJ.step{x y i a j c s:Nat}{o0 out:List Nat}(h:MulJ x y i a j c o0 out)(hi:i<(limbs x).length)(hj:j<(limbs y).length)(ha:a<4294967296)
  (hs:s=c+(a*(limbs y).getD j 0+out.getD (i+j) 0)):MulJ x y i a (j+1) (s/4294967296) o0 (out.set (i+j) (s%4294967296))/\s<18446744073709551616:=by
 have h2:=qc y j;have hlen:=h.hl;have h3:out.getD (i+j) 0<4294967296:=zb (by omega) h.hu _;have hm:a*(limbs y).getD j 0<=4294967295*4294967295:=q6p (by omega) (by omega);have hc:=h.hc;have hs2:s<18446744073709551616:=by omega
 have ho:o0.getD (i+j) 0=out.getD (i+j) 0:=by rw[zQ o0,zQ out,h.hlo]
 refine⟨⟨hj,by simp[h.hl],vF h.hu (q6k _ (by omega)),by omega,?_,?_⟩,hs2⟩
 .rw[<-q62,q6W (by omega)]
  have:=congrArg (List.drop 1) h.hlo;simpa[q5t]using this
 .rw[<-q62,zh (by omega),j6,j6,q6x]
  have:=h.hv
  have e:4294967296^(i+j)*(s%4294967296)+4294967296^(i+j)*4294967296*(s/4294967296)=4294967296^(i+j)*s:=by
   rw[q6n,<-q6m,Nat.mod_add_div]
  rw[q62,e,hs,ho,q6m,q6m,q6m,q6m]
  have e2:4294967296^i*(a*(4294967296^j*(limbs y).getD j 0))=4294967296^(i+j)*(a*(limbs y).getD j 0):=by
   rw[q6u,q6n,<-q6n a,q6o a (4294967296^j),q6n (4294967296^j)]
  rw[e2];omega
theorem MulJ.fin{x y i c:Nat}{o0 out:List Nat}(hI:MulI x y i o0)(hi:i<(limbs x).length)(h:MulJ x y i ((limbs x).getD i 0) (limbs y).length c o0 out):
  MulI x y (i+1) (out.set (i+(limbs y).length) (c%4294967296)):=by
 have hlen:=h.hl;have hc:=h.hc;rw[q6j hc];have hz:=hI.hz
 have hzo: ∀j,i+(limbs y).length<=j->out.getD j 0=0:=by
  intro j hj;have:=hz j hj
  have e: ∀l:List Nat,l.getD j 0=(l.drop (i+(limbs y).length)).getD (j-(i+(limbs y).length)) 0:=by
   intro l;simp only[q5y,q5B];rw[show i+(limbs y).length+(j-(i+(limbs y).length))=j by omega]
  rw[e out,h.hlo,<-e o0];exact this
 have valz: ∀(l:List Nat)(k:Nat),(∀j,k<=j->l.getD j 0=0)->qa l=qa (l.take k):=by
  intro l k hk;have h1:=Ay l k
  have h2:qa (l.drop k)=0:=by
   have: ∀m:List Nat,(∀j,m.getD j 0=0)->qa m=0:=by
    intro m
    induction m with
    |nil=>intro _;rfl
    |cons u r ih=>
     intro hm;have h0:=hm 0;simp at h0;rw[qa,ih (λj=>by simpa using hm (j+1)),h0]
   refine this _ λj=>?_
   have:=hk (k+j) (by omega);simpa[q5y,q5B]using this
  rw[h1,h2];simp
 refine⟨hi,by simp[h.hl],vF h.hu hc,?_,?_⟩
 .have h1: ∀j,i+(limbs y).length+1<=j->(out.set (i+(limbs y).length) c).getD j 0=0:=by
   intro j hj;rw[q5y,List.getElem?_set_ne (by omega),<-q5y];exact hzo j (by omega)
  rw[valz _ _ h1,zh (by omega),h.hv,<-valz o0 _ hz,hI.hv,vE (q6d _),qN,j6,q63,q6n]
 .intro j hj
  rw[q5y,List.getElem?_set_ne (by omega),<-q5y];exact hzo j (by omega)
theorem MulI.skip{x y i:Nat}{out:List Nat}(h:MulI x y i out)(hi:i<(limbs x).length)(h0:(limbs x).getD i 0=0):MulI x y (i+1) out:=by
 refine⟨hi,h.hl,h.hu,?_,λj hj=>h.hz j (by omega)⟩;rw[h.hv,j6,h0];simp
theorem MulI.fin{x y:Nat}{out:List Nat}(h:MulI x y (limbs x).length out):qa out=x*y:=by
 rw[h.hv,vE (q6d _),qN]
theorem vt{x y:Nat}:j3 x y<0↔x<y:=by
 unfold j3;split
 .simp;assumption
 .split<;>simp<;>omega
theorem DJ{x y:Nat}:j3 x y=0↔x=y:=by
 unfold j3;split
 .simp;omega
 .split<;>simp<;>omega
theorem AQ{x y:Nat}:j3 x y>0↔y<x:=by
 unfold j3;split
 .simp;omega
 .split<;>simp<;>omega
theorem q3E(x y:Nat): -1<=j3 x y/\j3 x y<=1:=by
 unfold j3;split
 .simp
 .split<;>simp
theorem Wq{a s:Nat}(ha:a<18446744073709551616)(hs:s<=18446744073709551616):IntKind.u64.wrap ((a:Int) -(s:Int))=((dif a s:Nat):Int):=by
 simp only[DL];rcases q6h a s with h|h
 .rw[q6j (by omega)]
  show((a:Int) -s)%((2:Int)^64)=_;rw[show(2:Int)^64=18446744073709551616 from by decide];omega
 .rw[show a+18446744073709551616-s=a-s+18446744073709551616 by omega,Nat.add_mod_right,q6j (by omega)]
  rw[MY (by omega) (by omega)];omega
theorem ofInt_nat(w n:Nat):BitVec.ofInt w (n:Int)=BitVec.ofNat w n:=by
 exact BitVec.ofInt_natCast w n
theorem Rw{w x s b:Nat}(hb:b<2^s):x*2^s|||b=x*2^s+b:=by
 rw[q6o,Nat.two_pow_add_eq_or_of_lt hb]
theorem NT{a b:Nat}(x s:Nat)(hab:a=x*2^s)(hb:b<2^s)(h:a+b<18446744073709551616):
  IntKind.u64.wrap ((BitVec.ofInt (IntKind.bits .u64) (a:Int)|||BitVec.ofInt (IntKind.bits .u64) (b:Int)).toNat)=((a+b:Nat):Int):=by
 rw[ofInt_nat,ofInt_nat,BitVec.toNat_or,BitVec.toNat_ofNat,BitVec.toNat_ofNat];have e:(2:Nat)^(IntKind.bits .u64)=18446744073709551616:=by decide
 rw[e,q6j (by omega),q6j (by omega),hab,Rw (w:=0) hb,<-hab];exact Ak h
theorem Tk{a b:Nat}(x s:Nat)(hab:a=x*2^s)(hb:b<2^s)(h:b+a<18446744073709551616):
  IntKind.u64.wrap ((BitVec.ofInt (IntKind.bits .u64) (b:Int)|||BitVec.ofInt (IntKind.bits .u64) (a:Int)).toNat)=((b+a:Nat):Int):=by
 rw[BitVec.or_comm,NT x s hab hb (by omega),Nat.add_comm]
theorem Xt{a b:Nat}(x s:Nat)(hab:a=x*2^s)(hb:b<2^s)(h:b+a<4294967296):
  IntKind.u32.wrap ((BitVec.ofInt (IntKind.bits .u32) (b:Int)|||BitVec.ofInt (IntKind.bits .u32) (a:Int)).toNat)=((b+a:Nat):Int):=by
 rw[ofInt_nat,ofInt_nat,BitVec.toNat_or,BitVec.toNat_ofNat,BitVec.toNat_ofNat];have e:(2:Nat)^(IntKind.bits .u32)=4294967296:=by decide
 rw[e,q6j (by omega),q6j (by omega),Nat.or_comm,hab,Rw (w:=0) hb,Nat.add_comm,<-hab];exact Sj h
theorem Sy{a:Nat}(h:a<18446744073709551616):
  IntKind.u64.wrap ((BitVec.ofInt (IntKind.bits .u64) (a:Int)&&&BitVec.ofInt (IntKind.bits .u64) 4294967295).toNat)=((a%4294967296:Nat):Int):=by
 have e:(2:Nat)^(IntKind.bits .u64)=18446744073709551616:=by decide
 rw[ofInt_nat,show(4294967295:Int)=((4294967295:Nat):Int)from rfl,ofInt_nat,BitVec.toNat_and,BitVec.toNat_ofNat,BitVec.toNat_ofNat];rw[e,q6j h,show 4294967295%18446744073709551616=2^32-1 by decide,Nat.and_two_pow_sub_one_eq_mod];exact Ak (by omega)
def bl(n:Nat):Nat:=if n=0 then 0 else n.log2+1
theorem FJ:bl 0=0:=rfl
theorem Hy(n:Nat):n<2^bl n:=by
 unfold bl;split
 .subst n;simp
 .exact Nat.lt_log2_self
theorem FH{n:Nat}(h:n≠0):2^(bl n-1)<=n:=by
 unfold bl;rw[if_neg h];exact Nat.log2_self_le h
theorem U4{n k:Nat}(h1:2^k<=n)(h2:n<2^(k+1)):bl n=k+1:=by
 have hn:n≠0:=by have:=q6w (n:=k) (show 0<2 by omega);omega
 unfold bl;rw[if_neg hn,(Nat.log2_eq_iff hn).2 ⟨h1,h2⟩]
theorem Cv{n k:Nat}(h:2^k<=n):bl n=bl (n/2^k)+k:=by
 have hp:=q6w (n:=k) (show 0<2 by omega);have h0:n/2^k≠0:=by have:=Nat.div_pos h hp;omega
 have h1:=FH h0;have h2:=Hy (n/2^k)
 have hb:0<bl (n/2^k):=by
  unfold bl;rw[if_neg h0];omega
 have:=U4 (n:=n) (k:=bl (n/2^k) -1+k) (by
  rw[q6u];exact q6e (q6r _ h1) (Nat.div_mul_le_self n _)) (by
  rw[show bl (n/2^k) -1+k+1=bl (n/2^k)+k by omega,q6u]
  exact(q66 hp).1 h2)
 omega
theorem OF{u:Nat}(h:u<4294967296):bl u<=32:=by
 rcases q6h 32 (bl u)with h'|h'
 .have h0:u≠0:=by rintro rfl;simp[FJ]at h'
  have:=FH h0;have:=q6v (show 0<2 by omega) (show 32<=bl u-1 by omega);omega
 .exact h'
theorem Lc{x:Nat}(h:x≠0):0<bl x:=by unfold bl;rw[if_neg h];omega
theorem Yo(v k:Nat):bl (v*2^k)=if v=0 then 0 else bl v+k:=by
 split
 .subst v;simp[FJ]
 .rename_i h
  have h1:=FH h;have h2:=Hy v;have h3:=Lc h
  have:=U4 (n:=v*2^k) (k:=bl v-1+k) (by rw[q6u];exact q6r _ h1) (by
   rw[show bl v-1+k+1=bl v+k by omega,q6u];exact(Nat.mul_lt_mul_right (q6w (by omega))).2 h2)
  omega
theorem wO{x:Nat}(h:0<(limbs x).length):x=qa ((limbs x).take ((limbs x).length-1))+4294967296^((limbs x).length-1)*(limbs x).getD ((limbs x).length-1) 0:=by
 have:=Bw (ls:=limbs x) (n:=(limbs x).length-1) (by omega);rw[show(limbs x).length-1+1=(limbs x).length by omega,q5Y,qN]at this;exact this
theorem wS{x:Nat}(h:0<(limbs x).length):(limbs x).getD ((limbs x).length-1) 0≠0:=by
 intro e;have h1:=wO h;rw[e,Nat.mul_zero,q64]at h1;have h2:=vH ((limbs x).take ((limbs x).length-1)) (λu hu=>jr x u (q5T hu));rw[<-h1,q5L,q6i (by omega)]at h2;have:=G9 h2;unfold nl at this;omega
theorem IV{x:Nat}(h:0<(limbs x).length):32*((limbs x).length-1)+bl ((limbs x).getD ((limbs x).length-1) 0)=bl x:=by
 have h1:=wO h;have h2:=vH ((limbs x).take ((limbs x).length-1)) (λu hu=>jr x u (q5T hu));rw[q5L,q6i (by omega)]at h2;have h3:=wS h;generalize(limbs x).getD ((limbs x).length-1) 0=u at*;generalize hn:(limbs x).length-1=n at*;generalize qa ((limbs x).take n)=v at*;have e:(4294967296:Nat)^n=2^(32*n):=by rw[Nat.pow_mul]
 rw[e]at h1 h2
 have hx:x/2^(32*n)=u:=by
  rw[h1,Nat.add_mul_div_left _ _ (q6w (by omega)),Nat.div_eq_of_lt h2,q6z]
 have:=Cv (n:=x) (k:=32*n) (by
  rw[h1];have:2^(32*n)*1<=2^(32*n)*u:=q6q _ (by omega)
  omega)
 rw[hx]at this;omega
theorem B3{x:Nat}:bl x=0↔x=0:=by
 constructor
 .intro h
  by_cases e:x=0
  .exact e
  .have:=Lc e;omega
 .rintro rfl;rfl
theorem AM(x:Nat):(limbs x).length=0\/(limbs x).getD ((limbs x).length-1) 0≠0:=by
 rcases q69 (limbs x).length with h|h
 .exact .inl h
 .exact .inr (wS h)
theorem nl0{x:Nat}:(limbs x).length=0↔x=0:=Pe
structure SmallI (x u i r:Nat) (out:List Nat):Prop where
 hi:i<=(limbs x).length
 hl:out.length=(limbs x).length
 hu: ∀v∈out,v<4294967296
 hr:r<u
 hv:qa (out.drop i)*u+r=qa ((limbs x).drop i)
theorem SmallI.start{x u:Nat}(hu:0<u):SmallI x u (limbs x).length 0 (List.replicate (limbs x).length 0):=by
 refine⟨q6d _,by simp,rep_lt _,hu,?_⟩;rw[List.drop_eq_nil_of_le (by simp),List.drop_eq_nil_of_le (q6d _)];simp[qa]
theorem Aj{ls:List Nat}{i:Nat}(h:i<ls.length):qa (ls.drop i)=ls.getD i 0+4294967296*qa (ls.drop (i+1)):=by
 rw[List.drop_eq_getElem_cons h,qa];simp[q5y,h]
theorem SmallI.step{x u i r d:Nat}{out:List Nat}(h:SmallI x u i r out)(h0:0<i)(hd:d=r*4294967296+(limbs x).getD (i-1) 0):
  SmallI x u (i-1) (d%u) (out.set (i-1) (d/u%4294967296)):=by
 have hlen:=h.hl;have hi:=h.hi;have hr:=h.hr;have hg:=qc x (i-1)
 have hq:d/u<4294967296:=by
  rw[q66 (by omega)];have:(r+1)*4294967296<=u*4294967296:=q6r _ (by omega);rw[q6o 4294967296 u];omega
 refine⟨by omega,by simp[h.hl],vF h.hu (q6k _ (by omega)),q6k _ (by omega),?_⟩;have e1:=Aj (ls:=limbs x) (i:=i-1) (by omega);have e2:=Aj (ls:=out.set (i-1) (d/u%4294967296)) (i:=i-1) (by simp;omega);rw[show i-1+1=i by omega]at e1 e2;have e3:(out.set (i-1) (d/u%4294967296)).drop i=out.drop i:=q6W (by omega)
 have e4:(out.set (i-1) (d/u%4294967296)).getD (i-1) 0=d/u:=by
  rw[q5y,List.getElem?_set_self (by omega)];simp;omega
 rw[e1,e2,e3,e4,q63,q6n];have:=h.hv;have hdm:=Nat.div_add_mod d u;rw[q6o u]at hdm;omega
theorem SmallI.fin{x u r:Nat}{out:List Nat}(h:SmallI x u 0 r out):qa out=x/u/\r=x%u:=by
 have:=h.hv;have hr:=h.hr;rw[q5v,q5v,qN]at this;constructor
 .rw[<-this,q6o,Nat.mul_add_div (by omega),Nat.div_eq_of_lt hr,q64]
 .rw[<-this,q6o,Nat.mul_add_mod,q6j hr]
theorem Si{x i:Nat}(h:i<(limbs x).length):qa ((limbs x).drop (i+1))*4294967296+(limbs x).getD i 0=qa ((limbs x).drop i):=by
 rw[Aj h];omega
theorem Yb{x i:Nat}(h:(limbs x).length<=2)(hi:0<i):qa ((limbs x).drop i)<4294967296:=by
 have h1:=vH ((limbs x).drop i) (λu hu=>jr x u (q6V hu));have h2:(4294967296:Nat)^((limbs x).drop i).length<=4294967296^1:=q6v (by omega) (by simp;omega);omega
structure RaiseI (x s i c:Nat) (out:List Nat):Prop where
 hi:i<=(limbs x).length
 hl:out.length=(limbs x).length+1
 hu: ∀v∈out,v<4294967296
 hc:c<2^s
 hv:qa (out.take i)+4294967296^i*c=qa ((limbs x).take i)*2^s
theorem RaiseI.start(x s:Nat):RaiseI x s 0 0 (List.replicate ((limbs x).length+1) 0):=⟨by omega,by simp,rep_lt _,q6w (by omega),by simp[qa]⟩
theorem RaiseI.step{x s i c d:Nat}{out:List Nat}(h:RaiseI x s i c out)(hi:i<(limbs x).length)(hd:d=c+(limbs x).getD i 0*2^s):
  RaiseI x s (i+1) (d/4294967296) (out.set i (d%4294967296)):=by
 have hlen:=h.hl;have hc:=h.hc;have hg:=qc x i;refine⟨hi,by simp[h.hl],vF h.hu (q6k _ (by omega)),?_,?_⟩
 .rw[q66 (by omega)]
  have:((limbs x).getD i 0+1)*2^s<=4294967296*2^s:=q6r _ (by omega);rw[q63]at this;rw[q6o (2^s)];omega
 .rw[zh (by omega),j6,q6x]
  have:=h.hv
  have e:4294967296^i*(d%4294967296)+4294967296^i*4294967296*(d/4294967296)=4294967296^i*d:=by
   rw[q6n,<-q6m,Nat.mod_add_div]
  rw[q62,e,hd,q6m,q63,q6n];omega
def padL:Nat->Nat->List Nat
 |_,0=>[]
 |v,n+1=>v%4294967296::padL (v/4294967296) n
theorem BE: ∀n v,(padL v n).length=n
 |0,_=>rfl
 |n+1,v=>by simp[padL,BE n]
theorem Gc: ∀n v,∀u∈padL v n,u<4294967296
 |0,_,u,h=>by simp[padL]at h
 |n+1,v,u,h=>by
  simp only[padL,q5O]at h;rcases h with rfl|h
  .omega
  .exact Gc n _ u h
theorem In: ∀{ls:List Nat},(∀u∈ls,u<4294967296)->ls=padL (qa ls) ls.length
 |[],_=>rfl
 |u::r,h=>by
  have hu:=h u q5Q;have ih:=In (ls:=r) (λv hv=>h v (q5P _ hv));rw[qa,q5H,padL];have e1:(u+4294967296*qa r)%4294967296=u:=by omega
  have e2:(u+4294967296*qa r)/4294967296=qa r:=by omega
  rw[e1,e2,<-ih]
theorem MI: ∀n v,v<4294967296^n->qa (padL v n)=v
 |0,v,h=>by simp at h;subst h;rfl
 |n+1,v,h=>by
  rw[q6x]at h;rw[padL,qa,MI n (v/4294967296) (by omega)];omega
theorem RaiseI.fin{x s c:Nat}{out:List Nat}(h:RaiseI x s (limbs x).length c out)(hs:s<=32):
  out.set (limbs x).length (c%4294967296)=padL (x*2^s) ((limbs x).length+1):=by
 have hlen:=h.hl;have hc:c<4294967296:=q6g h.hc (q6v (show 0<2 by omega) hs);have hu:=vF h.hu (n:=(limbs x).length) (q6k c (show 0<4294967296 by omega));have h1:=In hu;have h2:=zh (ls:=out) (n:=(limbs x).length) (x:=c%4294967296) (by omega);rw[vE (by simp;omega),q6j hc,h.hv,vE (q6d _),qN]at h2;rw[q6j hc,h2,q6S,hlen]at h1;rw[q6j hc];exact h1
theorem Fj(x s:Nat)(hs:s<=32):qa (padL (x*2^s) ((limbs x).length+1))=x*2^s:=by
 refine MI _ _ ?_;have h1:=BT x;have h2:(2:Nat)^s<=4294967296:=q6v (show 0<2 by omega) hs;rw[q6x];unfold nl at h1;exact q6g ((Nat.mul_lt_mul_right (q6w (by omega))).2 h1) (q6q _ h2)
theorem Dn{a s:Nat}(ha:a<4294967296)(hs:s<=32):a*2^s<18446744073709551616:=by
 have h2:(2:Nat)^s<=4294967296:=q6v (show 0<2 by omega) hs;have:=q6p (show a<=4294967295 by omega) h2;omega
theorem M9{x:Nat}(h:(limbs x).length<=2):x<18446744073709551616:=by
 have h1:=BT x;have h2:(4294967296:Nat)^nl x<=4294967296^2:=q6v (by omega) h;omega
theorem JS(d:Nat):(denL d).length=0\/(denL d).getD ((denL d).length-1) 0≠0:=by
 unfold denL;split
 .left;rfl
 .exact AM d
section
section
variable {P:Program}
theorem IB{t e:TypeId}{ie:TypeInfo}(h:P.underlying t=some (.slice e))(he:P.info? e=some ie)(a:Option Addr)(len cap:Nat)(lo:Option (IntKind×Int))(k:IntKind)(i:Int){l r:Nat}
  (hl:(match lo with|some (_,i)=>i|none=>0)=(l:Int))(hr:i=(r:Int))(hlr:l<=r)(hrc:r<=cap)(w:World):
  (Instr.sliceAt t (.slice a len cap) (lo.map λp=> .int p.1 p.2) (some (.int k i)) (some (.int k i))).run P w= .ok (.slice (if r=l then a else a.map (·.add (l*ie.size))) (r-l) (r-l)) w:=by
 have hb: ∀(k:IntKind)(i:Int)(y:Nat)(c:BoundsCode)(j:Nat),i=(j:Int)->j<=y->(Instr.sliceBound (.int k i) y c).run P w= .ok j w:=by
  intro k i y c j hi hj;subst hi;have:(0:Int)<=j/\(j:Int)<=y:=by omega
  simp only[Instr.sliceBound,asIntOf,q6H,q6I,q6G,this,and_self,if_true,q5r]
 have hbounds:(Instr.sliceBounds true len cap (lo.map λp=> .int p.1 p.2) (some (.int k i)) (some (.int k i))).run P w= .ok (l,r,r) w:=by
  cases lo with
  |none=>
   have hl0:l=0:=by simp at hl;omega
   subst hl0;simp[Instr.sliceBounds,hb k i cap .slice3Acap r hr hrc,hb k i r .slice3B r hr (q6d _)]
  |some p=>
   obtain⟨k0,i0⟩:=p;simp only at hl;simp[Instr.sliceBounds,hb k i cap .slice3Acap r hr hrc,hb k i r .slice3B r hr (q6d _),hb k0 i0 r .slice3C l hl hlr]
 simp only[Instr.sliceAt,q6H,qG h,q6G,Instr.slice,hbounds,jO he,q6I]
theorem QG{t ty:TypeId}{x z z':Operand}{k off n cap es:Nat}{r:Nat}{k2:IntKind}{i2:Int}(hs:jH P t=some es)(hr:i2=(r:Int))(hrn:r<=cap):
  OpOk P (.slice t x none (some z) (some z')) ty [(x,.c (.one (.sl k off n cap))),(z,qo k2 i2),(z',qo k2 i2)] [] (.c (.one (.sl k off r r))) []:=
 qP λa w H β hins _ _=>by
  obtain⟨e,ie,h1,h2,rfl⟩:=jR hs;obtain⟨b,c,hβ,hxe⟩:=hins _ q5Q;simp only at hβ hxe;have hz:=(hins (z,qo k2 i2) (by simp)).1;have hz':=(hins (z',qo k2 i2) (by simp)).1;simp only at hz hz';have hsl:=IB (P:=P) h1 h2 (some ⟨b,off,none⟩) n cap none k2 i2 (l:=0) (r:=r) rfl hr (q6A _) (by omega) w;simp only[q6C,q6D]at hsl;refine⟨.slice (some ⟨b,off,none⟩) r r,⟨b,c,hβ,rfl⟩,λ_ _ _ _=>?_⟩;simp only[execOp,hxe,hz,hz',q6C,q6D,q6H,hsl,q6G,q6I];by_cases e:r=0
  .rw[if_pos e];simp
  .rw[if_neg e];simp[vk]
theorem OP{t ty:TypeId}{x y z z':Operand}{k off n cap es:Nat}{l r:Nat}{k1:IntKind}{i1:Int}{k2:IntKind}{i2:Int}(hs:jH P t=some es)(hl:i1=(l:Int))(hr:i2=(r:Int))(hlr:l<r)(hrn:r<=cap):
  OpOk P (.slice t x (some y) (some z) (some z')) ty [(x,.c (.one (.sl k off n cap))),(y,qo k1 i1),(z,qo k2 i2),(z',qo k2 i2)] [] (.c (.one (.sl k (off+l*es) (r-l) (r-l)))) []:=
 qP λa w H β hins _ _=>by
  obtain⟨e,ie,h1,h2,rfl⟩:=jR hs;obtain⟨b,c,hβ,hxe⟩:=hins _ q5Q;simp only at hβ hxe;have hy:=(hins (y,qo k1 i1) (by simp)).1;have hz:=(hins (z,qo k2 i2) (by simp)).1;have hz':=(hins (z',qo k2 i2) (by simp)).1;simp only at hy hz hz';have hsl:=IB (P:=P) h1 h2 (some ⟨b,off,none⟩) n cap (some (k1,i1)) k2 i2 (l:=l) (r:=r) hl hr (by omega) (by omega) w;simp only[q6C,q6D]at hsl;refine⟨.slice (some ⟨b,off+l*ie.size,none⟩) (r-l) (r-l),⟨b,c,hβ,rfl⟩,λ_ _ _ _=>?_⟩;simp only[execOp,hxe,hy,hz,hz',q6C,q6D,q6H,hsl,q6G,q6I];rw[if_neg (by omega)];simp[vk]
theorem OM{t ty:TypeId}{x z:Operand}{k n es:Nat}{cs:List Atom}{r:Nat}{k2:IntKind}{i2:Int}(hs:jH P t=some es)(h0:0<es)(hr:i2=(r:Int))(hrn:r<=n)(hn:n*es<=cs.length):
  OpOk P (.slice t x none (some z) none) ty [(x,.c (.one (.gs k n))),(z,qo k2 i2)] [(k,.grow es cs)] (.c (.one (.gs k r))) []:=
 qP λa w H β hins hkin _=>by
  obtain⟨e,ie,h1,h2,rfl⟩:=jR hs;have hx:=hins _ q5Q;have hz:=(hins (z,qo k2 i2) (by simp)).1;simp only at hz;rcases hx with⟨hβ,rfl,hxe⟩|⟨b,c,hβ,hxe⟩
  .simp only at hxe
   have hr0:r=0:=by omega
   subst hr0;have hsl:=vW (P:=P) h1 h2 none 0 0 none (some (k2,i2)) (l:=0) (r:=0) rfl hr (q6d _) (q6d _) w;simp only[q6C,q6D]at hsl;refine⟨.slice none 0 0,.inl ⟨hβ,rfl,rfl⟩,λ_ _ _ _=>?_⟩;simp only[execOp,hxe,hz,q6C,q6D,q6H,hsl,q6G,q6I];rfl
  .simp only at hxe
   have hrep:(Blk.grow ie.size cs).rep β w H k:=hkin (k,.grow ie.size cs) (by simp)
   have hcap:n<=c:=by
    rcases hrep with⟨h3,_⟩|⟨b',c',arr,T,h3,_,h4,h5,_⟩
    .rw[hβ]at h3;cases h3
    .rw[hβ]at h3;cases h3
     exact Nat.le_of_mul_le_mul_right (by omega) h0
   have hsl:=vW (P:=P) h1 h2 (some ⟨b,0,none⟩) n c none (some (k2,i2)) (l:=0) (r:=r) rfl hr (q6A _) (by omega) w;simp only[q6C,q6D]at hsl;refine⟨.slice (some ⟨b,0,none⟩) r c,.inr ⟨b,c,hβ,rfl⟩,λ_ _ _ _=>?_⟩;simp only[execOp,hxe,hz,q6C,q6D,q6H,hsl,q6G,q6I];by_cases e:c=0
   .rw[if_pos e];simp
   .rw[if_neg e];simp[vk]
theorem q2N{k n es:Nat}{cells cells':List CAtom}{g:Option Nat}(he:g=some es)(h0:0<es)(hl:n*es<=cells.length)(hc:cells.take (n*es)=cells'):RelA k cells g (.gs k n) (.abs (flP cells' n)):=by
 intro β H H' v hle hf hs;rcases hf with⟨h1,hnil⟩|⟨b2,c2,arr,h1,h2,h3,h4⟩
 .rcases hs with⟨_,rfl,rfl⟩|⟨b,c,hβ,_⟩
  .exact⟨none,0,rfl,q6d _,.inl (by rw[<-hc,hnil];simp)⟩
  .rw[hβ]at h1;cases h1
 .rcases hs with⟨hβ,_⟩|⟨b,c,hβ,rfl⟩
  .rw[hβ]at h1;cases h1
  .rw[hβ]at h1;cases h1
   have h5:=h4 es he;refine⟨_,_,rfl,Nat.le_of_mul_le_mul_right (q6e hl h5) h0,.inr ⟨_,0,arr,rfl,h2,?_⟩⟩;have e1:cells'.length=n*es:=by rw[<-hc];simp;omega
   have:=h3.take (n*es);rw[q61,q6i (by omega),hc]at this;rw[e1];simpa using this
def OW(P:Program)(t:TypeId):Bool:=match P.underlying t with|some .string=>true|_=>false
theorem OX{t:TypeId}(h:OW P t=true):P.underlying t=some .string:=by
 unfold OW at h;split at h
 .assumption
 .cases h
theorem FY{t ty:TypeId}{x y:Operand}{s:ByteArray}{kk:IntKind}{i:Int}{j:Nat}(ht:OW P t=true)(hi:i=(j:Int))(hj:j<256)
  (hall:(List.range 256).all (λj=>match s[j]? with|some b=>b.toNat==bl j|none=>false)=true):
  OpOk P (.index t x y) ty [(x,.c (.one (.val (.string s)))),(y,qo kk i)] [] (qo .u8 ((bl j:Nat):Int)) []:=
 qP λa w H β hins _ _=>by
  have hx:=(hins (x,.c (.one (.val (.string s)))) (by simp)).1;have hy:=(hins (y,qo kk i) (by simp)).1;simp only at hx hy;refine⟨.int .u8 ((bl j:Nat):Int),⟨rfl,rfl⟩,λ_ _ _ _=>?_⟩;have h1:=q6N.1 hall j (List.mem_range.2 hj);subst hi;split at h1
  .rename_i b hb
   have hb':b.toNat=bl j:=by simpa using h1
   simp only[execOp,hx,hy,Instr.index,asIntOf,q6H,q6I,q6G,qG (OX ht),q5q,if_true,q5r,hb];simp only[q6I,q6G,hb']
  .cases h1
theorem Y2{f:FuncId}{ps:List AV}{d n es:Nat}{cells:List CAtom}{cs:List Atom}(hcs:cs=cells.map CAtom.up)(h0:0<es)(hn:n*es=cells.length)
  (h:vQ P f ps [] (.c (.one (.gs d n))) [(d,some (.grow es cs))]):vQ P f ps [] (.c (.one (.abs (flP cells n)))) []:=by
 subst hcs;refine⟨h.1,λvs w H β hargs hkin hdis hon=>Calls.mono (h.2 vs w H β hargs (λp hp=>by simp at hp) (λp hp=>by simp at hp) hon) ?_⟩
 rintro e w' ⟨v,H',β',he,hs,hv,hb⟩
 have hrep:=hb d (.grow es (cells.map CAtom.up)) q5Q;have hk:kwOf [] [(d,some (Blk.grow es (cells.map CAtom.up)))]=[]:=rfl;have hk2:qX [] [(d,some (Blk.grow es (cells.map CAtom.up)))]=[d]:=rfl;have hk3:vg [(d,some (Blk.grow es (cells.map CAtom.up)))]=[]:=rfl;rw[hk,hk2,hk3]at hs;rcases hrep with⟨h1,h2⟩|⟨b,c,arr,T,h1,h2,h3,h4,h5⟩
 .rcases hv with⟨_,rfl,rfl⟩|⟨b,c,h3,_⟩
  .refine⟨_,H',β,he,⟨hs.os,hs.tape,hs.output,hs.size,λb hb' _=>hs.keep b hb' (by simp),hs.hle,hs.hnew,hs.hon,λ_ _=>rfl,by simp[qX],by simp[qX]⟩,?_,by simp⟩
   exact⟨none,0,rfl,q6d _,.inl (by simpa using h2)⟩
  .rw[h1]at h3;cases h3
 .rcases hv with⟨h6,_⟩|⟨b',c',h6,rfl⟩
  .rw[h1]at h6;cases h6
  .rw[h1]at h6;cases h6
   obtain⟨f1,f2⟩:=hs.fresh d (by simp) b c h1;have hle:=Heap.set_le arr f1
   have hb0:w.heap.size<=b:=by
    rcases f2 with f2|⟨k0,hk0,_⟩
    .exact f2
    .simp at hk0
   rw[q5J]at h4 h5;refine⟨_,H'.set b arr,β,he,⟨hs.os,hs.tape,hs.output,hs.size,λb hb' _=>hs.keep b hb' (by simp),hs.hle.trans hle,?_,?_,λ_ _=>rfl,by simp[qX],by simp[qX]⟩,?_,by simp⟩
   .intro b' hb'
    by_cases e:b'=b
    .exact .inr (by omega)
    .simp only[Heap.set,if_neg e]at hb';exact hs.hnew b' hb'
   .intro b' cs hb'
    by_cases e:b'=b
    .subst e
     rw[Heap.set_at]at hb';cases hb'
     exact⟨T,(0,0),h2⟩
    .simp only[Heap.set,if_neg e]at hb';exact hs.hon b' cs hb'
   .refine⟨_,c,rfl,?_,.inr ⟨b,0,arr,rfl,Heap.set_at _ _ _,?_⟩⟩
    .rw[<-hn,h3]at h4;exact Nat.le_of_mul_le_mul_right h4 h0
    .have:=(CSats.of_up h5).mono hle
     simpa using this
end
end
section
section
variable {P:Program}
theorem ON{t ty:TypeId}{x y:Operand}{k n es:Nat}{cs:List Atom}{l:Nat}{k1:IntKind}{i1:Int}(hs:jH P t=some es)(h0:0<es)(hl:i1=(l:Int))(hln:l<=n)(hn:n*es<=cs.length):
  OpOk P (.slice t x (some y) none none) ty [(x,.c (.one (.gs k n))),(y,qo k1 i1)] [(k,.grow es cs)] (.c (.one (.so k (l*es) l (n-l)))) []:=
 qP λa w H β hins hkin _=>by
  obtain⟨e,ie,h1,h2,rfl⟩:=jR hs;have hx:=hins _ q5Q;have hy:=(hins (y,qo k1 i1) (by simp)).1;simp only at hy;rcases hx with⟨hβ,hn0,hxe⟩|⟨b,c,hβ,hxe⟩
  .simp only at hxe
   have hsl:=vW (P:=P) h1 h2 none 0 0 (some (k1,i1)) none (l:=l) (r:=0) hl rfl (by omega) (q6d _) w;simp only[q6C,q6D]at hsl;have e0:0-l=0:=by omega
   rw[e0]at hsl;refine⟨.slice none 0 0,.inl ⟨by omega,none,0,rfl⟩,λ_ _ _ _=>?_⟩
   .simp only[execOp,hxe,hy,q6C,q6D,q6H,hsl,q6G,q6I]
    simp
  .simp only at hxe
   have hrep:(Blk.grow ie.size cs).rep β w H k:=hkin (k,.grow ie.size cs) (by simp)
   have hcap:n<=c:=by
    rcases hrep with⟨h3,_⟩|⟨b',c',arr,T,h3,_,h4,h5,_⟩
    .rw[hβ]at h3;cases h3
    .rw[hβ]at h3;cases h3
     exact Nat.le_of_mul_le_mul_right (by omega) h0
   have hsl:=vW (P:=P) h1 h2 (some ⟨b,0,none⟩) n c (some (k1,i1)) none (l:=l) (r:=n) hl rfl (by omega) hcap w;simp only[q6C,q6D]at hsl;by_cases hlt:l<n
   .refine⟨.slice (some ⟨b,l*ie.size,none⟩) (n-l) (c-l),.inr ⟨b,c,hβ,rfl⟩,λ_ _ _ _=>?_⟩
    simp only[execOp,hxe,hy,q6C,q6D,q6H,hsl,q6G,q6I];rw[if_neg (by omega)];simp[vk]
   .have e0:n-l=0:=by omega
    refine⟨.slice (if c=l then some (⟨b,0,none⟩:Addr)else Option.map (λa:Addr=>a.add (l*ie.size)) (some ⟨b,0,none⟩)) 0 (c-l),.inl ⟨e0,_,_,rfl⟩,λ_ _ _ _=>?_⟩;simp only[execOp,hxe,hy,q6C,q6D,q6H,hsl,q6G,q6I];rw[e0]
theorem q1o{t ty:TypeId}{x y:Operand}{k off lo n es:Nat}{kk:IntKind}{i:Int}{j:Nat}{o:Nat}(h:jH P t=some es)(hi:i=(j:Int))(hj:j<n)(ho:o=off+j*es):
  OpOk P (.indexAddr t x y) ty [(x,.c (.one (.so k off lo n))),(y,qo kk i)] [] (.c (.one (.loc k o))) []:=
 qP λa w H β hins _ _=>by
  obtain⟨e,ie,h1,h2,rfl⟩:=jR h;have hx:=hins _ q5Q;rcases hx with⟨hz,_⟩|⟨b,c,hβ,hx⟩
  .omega
  have hy:=(hins (y,qo kk i) (by simp)).1;simp only at hβ hx hy;subst ho;have e:j=i.toNat:=by omega
  subst e;refine⟨_,⟨b,c,hβ,rfl⟩,λ_ _ _ _=>?_⟩;simp only[execOp,hx,hy,q6H,wv h1 h2 (show 0<=i by omega) (show i<n by omega),q6G,q6I]
theorem q1p{t ty:TypeId}{x:Operand}{k off lo n:Nat}(h:vy P t=true):
  OpOk P (.call {callee:= .builtin .len,args:= #[x],argTypes:= #[t]}) ty [(x,.c (.one (.so k off lo n)))] [] (qo .i64 n) []:=by
 unfold vy at h;split at h
 .rename_i e he;exact Ff he (λ_ _ _ h=>by rcases h with⟨rfl,p,c,h⟩|⟨_,_,_,h⟩<;>exact⟨_,_,h⟩)
 .cases h
theorem q1k{t ty:TypeId}{x:Operand}{k off lo n es bb:Nat}{z:Array Value}{cs zs:List Atom}(hb:elB P t=some (es,bb))(hz:elZ P t=some z)(hsz:z.size=es)(hn:0<n)(hcs:off+n*es<=cs.length)
  (hzs: ∀β H,Sats β H zs (((Array.range (n*es)).map (z[· %z.size]!)).toList)):
  OpOk P (.call {callee:= .builtin .clear,args:= #[x],argTypes:= #[t]}) ty [(x,.c (.one (.so k off lo n)))] [(k,.grow es cs)] E6 [(k,some (.grow es (spl cs off zs)))]:=by
 intro dst pos after guard a w H β K Q hins hkin _ hon hK;have hx:=hins _ q5Q;rcases hx with⟨hz,_⟩|⟨b,c,hβ,hx⟩
 .omega
 obtain⟨hrep,hown⟩:=hkin _ q5Q;rcases hrep with⟨hβ',_⟩|⟨b',c',arr,T,hβ',hb',hcap,hle,hsat⟩
 .simp only at hβ hβ';rw[hβ]at hβ';cases hβ'
 simp only at hβ hx hβ' hsat hown;rw[hβ]at hβ';cases hβ'
 obtain⟨e,i,v,h1,h2,hz',rfl⟩:=AJ hz;have hzl:=(hzs β H).length;have hvl:(((Array.range (n*es)).map (v.cells[· %v.cells.size]!)).toList).length=n*es:=by simp
 obtain⟨w',hrun,hset⟩:=wB (P:=P) (((Array.range (n*es)).map (v.cells[· %v.cells.size]!)).toList) off 0 w arr hb' (Sats.oneC (hzs β H)) (by rw[hvl];omega)
 have hrun':(storeCells ⟨b,off,none⟩ (Builtin.zeroCells v.cells n).toList).run P w= .ok () w':=by
  unfold Builtin.zeroCells;rw[hsz];rw[hsz]at hrun;exact hrun
 have hc:(Builtin.clear_ #[t] ty #[.slice (some ⟨b,off,none⟩) n (c-lo)]).run P w= .ok (.tuple #[]) w':=by
  obtain⟨m,rfl⟩: ∃m,n=m+1:=⟨n-1,by omega⟩;simp only[Builtin.clear_,q5F,q5A,q6H,qG h1,q6G,vO h2 hz',hrun',q6I]
 unfold Oper.wp
 have:(execOp a.eval ⟨dst,.call {callee:= .builtin .clear,args:= #[x],argTypes:= #[t]},ty,pos,after,guard⟩).run P w= .ok (.value (.tuple #[])) w':=by
  simp only[execOp,resolve,q6H,q6I,q6G,invoke,builtin,List.map_toArray,q5M,List.map_nil,hx,hc]
 rw[this];have hspl:(spl cs off zs).length=cs.length:=by simp[spl];omega
 have hsplv:(spl arr.toList off (((Array.range (n*es)).map (v.cells[· %v.cells.size]!)).toList)).length=arr.size:=by simp[spl];omega
 refine hK (.tuple #[]) w' H β ?_ (Dq _ _) ?_
 .simpa[kwOf,qX,vg,look]using Step.setArr hset hβ (hown b c hβ).1 hon
 .intro k' b1 hb1
  simp only[q5U,q6F,q6E]at hb1;obtain⟨rfl,rfl⟩:=hb1;generalize hV:((Array.range (n*es)).map (v.cells[· %v.cells.size]!)).toList=V at*;have hat:=hset.at_;rw[q64]at hat;refine .inr ⟨b,c,_,T,hβ,hat,by simpa[hsplv]using hcap,by simp[hspl,hsplv];omega,?_⟩;have h1:=hsat.spl off (hzs β H)
  have h2:(spl arr.toList off V).take (spl cs off zs).length=spl (arr.toList.take cs.length) off V:=by
   rw[hspl];unfold spl;rw[List.take_append,List.take_append,q61,List.drop_take];have e1:min cs.length off=off:=by omega
   have e2:min off cs.length=off:=by omega
   simp[q5L];have e3:min off arr.size=off:=by omega
   rw[e3];have e4:List.take (cs.length-off) V=V:=q5Z (by omega);rw[e4,e1,q61,e2,Nat.sub_sub]
  simpa[h2]using h1
theorem Js{t:TypeId}{s b:Nat}{z:Array Value}(hb:elB P t=some (s,b))(hz:elZ P t=some z)(k:IntKind)(n:Nat)(hn:n*b<=281474976710656)(hn2:n<9223372036854775808)(hs:0<s)(w:World):
  ∃T,(Instr.makeSlice t (.int k 0) (.int k n)).run P w= .ok (.slice (some ⟨w.heap.size,0,none⟩) 0 n) (w.alloc (.cells ((Array.range (n*s)).map (z[· %z.size]!)) T)):=by
 obtain⟨e,i,h1,h2,rfl,rfl⟩:=AI hb;obtain⟨e',i',v,h1',h2',hz',rfl⟩:=AJ hz;rw[h1]at h1';cases h1'
 rw[h2]at h2';cases h2'
 refine⟨e,?_⟩;have hw:IntKind.i64.wrap (n:Int)=(n:Int):=Fz hn2
 have hbig: ¬((i.bytes:Int)*(n:Int)>2^48):=by
  have:(i.bytes:Int)*n<=281474976710656:=by
   rw[<-q5p,q6o];exact Int.ofNat_le.2 hn
  omega
 have hneg: ¬((n:Int)<0):=by omega
 simp only[Instr.makeSlice,q6H,qG h1,q6G,asInt,asIntOf,q6I,wC h2,hw];have hw0:IntKind.i64.wrap 0=0:=by decide
 have hc1: ¬((0:Int)>(n:Int)):=by omega
 have hcond':(((decide ((n:Int)<0)||decide ((i.bytes:Int)*(n:Int)>2^48))||decide ((0:Int)<0)||decide ((0:Int)>(n:Int))))=false:=by
  simp only[hneg,hbig,hc1,decide_false,Bool.or_false,Int.lt_irrefl]
 simp only[hw0];simp only[hcond',q5n,if_false,run_askRoom,q6H,q6G,jO h2,q5r,Int.toNat_zero];by_cases h0:n*i.size=0
 .have:n=0:=by
   rcases Nat.mul_eq_zero.1 h0 with h|h
   .exact h
   .omega
  subst this;have hm: ∀f:Nat->Value,(Array.range 0).map f= #[]:=by intro f;simp
  simp only[q6B,if_true,q6I,q6G,newRow,q6H,run_newObj];rw[hm,hm];rfl
 .simp only[h0,if_false,q6H,vO h2 hz',q6G,q6I,newRow,run_newObj]
  rfl
theorem q1q{t ty:TypeId}{x y:Operand}{d n s b:Nat}{z:Array Value}(hb:elB P t=some (s,b))(hz:elZ P t=some z)(hs:0<s)(hn:n*b<=281474976710656)(hn2:n<9223372036854775808):
  OpOk P (.makeSlice t x y) ty [(x,qo .i64 0),(y,qo .i64 n)] [] (.c (.one (.gs d 0))) [(d,some (.grow s []))]:=by
 intro dst pos after guard a w H β K Q hins _ _ hon hK;have hx:=(hins _ q5Q).1;have hy:=(hins (y,qo .i64 n) (by simp)).1;simp only at hx hy;obtain⟨T,hrun⟩:=Js hb hz .i64 n hn hn2 hs w;unfold Oper.wp
 have:(execOp a.eval ⟨dst,.makeSlice t x y,ty,pos,after,guard⟩).run P w= .ok (.value (.slice (some ⟨w.heap.size,0,none⟩) 0 n)) (w.alloc (.cells ((Array.range (n*s)).map (z[· %z.size]!)) T)):=by
  simp only[execOp,hx,hy,q6H,hrun,q6G,q6I]
 rw[this];refine hK _ _ H (β.set d (some (w.heap.size,n))) ?_ (.inr ⟨_,_,Bm.set_same _ _ _,rfl⟩) ?_
 .simpa[kwOf,qX,vg,look]using Step.alloc (β:=β) d n (.cells _ T) hon
 .intro k' b' hb'
  simp only[q5U,q6F,q6E]at hb';obtain⟨rfl,rfl⟩:=hb';exact .inr ⟨w.heap.size,n,_,T,Bm.set_same _ _ _,wG w _,by simp,q6A _,trivial⟩
end
end
inductive Ty where
 |nat (k:IntKind)|int (k:IntKind)|bool|str|mag|rat
 |sl (t:Ty)|pr (a b:Ty)|st (t:Ty)|fn (f:FuncId)
 |pt (t:Ty)|cl (f:FuncId) (t:Ty)
inductive Bd where
 |u|n (b:Nat)|s (b:Nat) (e:Bd)|p (a b:Bd)
@[reducible] def Ty.den:Ty->Type
 | .nat _=>Nat| .int _=>Int| .bool=>Bool| .str=>ByteArray| .mag=>Nat| .rat=>Rat
 | .sl t=>List t.den| .pr a b=>a.den×b.den| .st t=>t.den| .fn _=>Unit| .pt t=>t.den| .cl _ t=>t.den
def Ty.dft:(t:Ty)->t.den
 | .nat _=>(0:Nat)| .int _=>(0:Int)| .bool=>false| .str=>ByteArray.empty| .mag=>(0:Nat)| .rat=>(0:Rat)
 | .sl _=>[]| .pr a b=>(a.dft,b.dft)| .st t=>t.dft| .fn _=>()| .pt t=>t.dft| .cl _ t=>t.dft
def Ty.w:Ty->Nat
 | .rat=>3| .pr a b=>a.w+b.w| .st t=>t.w|_=>1
def Ty.agg:Ty->Bool
 | .rat| .pr _ _| .st _=>true
 |_=>false
def kbeq(a b:IntKind):Bool:=decide (a=b)
theorem vG{a b:IntKind}(h:kbeq a b=true):a=b:=of_decide_eq_true h
def Ty.beq:Ty->Ty->Bool
 | .nat k,.nat k'=>kbeq k k'
 | .int k,.int k'=>kbeq k k'
 | .bool,.bool=>true
 | .str,.str=>true
 | .mag,.mag=>true
 | .rat,.rat=>true
 | .sl a,.sl b=>a.beq b
 | .pr a b,.pr c d=>a.beq c&&b.beq d
 | .st a,.st b=>a.beq b
 | .fn f,.fn g=>Nat.beq f g
 | .pt a,.pt b=>a.beq b
 | .cl f a,.cl g b=>Nat.beq f g&&a.beq b
 |_,_=>false
theorem Ty.beq_eq: ∀{a b:Ty},a.beq b=true->a=b
 | .nat _,b,h=>by cases b<;>simp only[Ty.beq,q5n]at h;rw[vG h]
 | .int _,b,h=>by cases b<;>simp only[Ty.beq,q5n]at h;rw[vG h]
 | .bool,b,h=>by cases b<;>simp only[Ty.beq,q5n]at h;rfl
 | .str,b,h=>by cases b<;>simp only[Ty.beq,q5n]at h;rfl
 | .mag,b,h=>by cases b<;>simp only[Ty.beq,q5n]at h;rfl
 | .rat,b,h=>by cases b<;>simp only[Ty.beq,q5n]at h;rfl
 | .sl a,b,h=>by cases b<;>simp only[Ty.beq,q5n]at h;rw[Ty.beq_eq h]
 | .pr a c,b,h=>by
  cases b<;>simp only[Ty.beq,q5n]at h
  rw[q5m]at h;rw[Ty.beq_eq h.1,Ty.beq_eq h.2]
 | .st a,b,h=>by cases b<;>simp only[Ty.beq,q5n]at h;rw[Ty.beq_eq h]
 | .fn f,b,h=>by cases b<;>simp only[Ty.beq,q5n]at h;rw[q68 h]
 | .pt a,b,h=>by cases b<;>simp only[Ty.beq,q5n]at h;rw[Ty.beq_eq h]
 | .cl f a,b,h=>by
  cases b<;>simp only[Ty.beq,q5n]at h
  rw[q5m]at h;rw[q68 h.1,Ty.beq_eq h.2]
def gt(t:Ty)(l:List t.den)(i:Nat):t.den:=l.getD i t.dft
def qM(x b:Nat):Prop:=x<2^b
def le2(x b:Nat):Prop:=x<=2^b
def Bnd:(t:Ty)->Bd->t.den->Prop
 | .nat _,.n b,x=>x<=b
 | .int _,.n b,x=>Int.natAbs x<=b
 | .bool,_,_=>True
 | .str,.n b,x=>ByteArray.size x<=b
 | .mag,.n b,x=>qM x b
 | .rat,.n b,x=>qM (Int.natAbs (Rat.num x)) b/\le2 (Rat.den x) b
 | .sl t,.s n e,l=>List.length l<=n/\ ∀x∈l,Bnd t e x
 | .pr a b,.p c d,x=>Bnd a c x.1/\Bnd b d x.2
 | .st t,e,x=>Bnd t e x
 | .fn _,_,_=>True
 | .pt t,e,x=>Bnd t e x
 | .cl _ t,e,x=>Bnd t e x
 |_,_,_=>False
def Bd.le:Bd->Bd->Bool
 | .u,.u=>true
 | .n a,.n b=>Nat.ble a b
 | .s a e,.s b f=>Nat.ble a b&&e.le f
 | .p a b,.p c d=>a.le c&&b.le d
 |_,_=>false
theorem qd{x a b:Nat}(h:a<=b)(k:qM x a):qM x b:=q6g k (q6v (by decide) h)
theorem Bo{x a b:Nat}(h:a<=b)(k:le2 x a):le2 x b:=q6e k (q6v (by decide) h)
theorem Bnd.mono: ∀{t:Ty}{a b:Bd}{x:t.den},a.le b=true->Bnd t a x->Bnd t b x
 | .nat _,.n a,.n b,x,h,k=>q6e k (q6a h)
 | .int _,.n a,.n b,x,h,k=>q6e k (q6a h)
 | .bool,_,_,_,_,_=>trivial
 | .str,.n a,.n b,x,h,k=>q6e k (q6a h)
 | .mag,.n a,.n b,x,h,k=>qd (q6a h) k
 | .rat,.n a,.n b,x,h,k=>⟨qd (q6a h) k.1,Bo (q6a h) k.2⟩
 | .sl t,.s a e,.s b f,l,h,k=>by
  simp only[Bd.le,q5m]at h;exact⟨q6e k.1 (q6a h.1),λx hx=>Bnd.mono h.2 (k.2 x hx)⟩
 | .pr a b,.p c d,.p e f,x,h,k=>by
  simp only[Bd.le,q5m]at h;exact⟨Bnd.mono h.1 k.1,Bnd.mono h.2 k.2⟩
 | .st t,a,b,x,h,k=>Bnd.mono (t:=t) h k
 | .fn _,_,_,_,_,_=>trivial
 | .pt t,a,b,x,h,k=>Bnd.mono (t:=t) h k
 | .cl _ t,a,b,x,h,k=>Bnd.mono (t:=t) h k
 | .nat _,.n a,.u,x,h,k| .nat _,.n a,.s _ _,x,h,k| .nat _,.n a,.p _ _,x,h,k=>by simp[Bd.le]at h
 | .int _,.n a,.u,x,h,k| .int _,.n a,.s _ _,x,h,k| .int _,.n a,.p _ _,x,h,k=>by simp[Bd.le]at h
 | .str,.n a,.u,x,h,k| .str,.n a,.s _ _,x,h,k| .str,.n a,.p _ _,x,h,k=>by simp[Bd.le]at h
 | .mag,.n a,.u,x,h,k| .mag,.n a,.s _ _,x,h,k| .mag,.n a,.p _ _,x,h,k=>by simp[Bd.le]at h
 | .rat,.n a,.u,x,h,k| .rat,.n a,.s _ _,x,h,k| .rat,.n a,.p _ _,x,h,k=>by simp[Bd.le]at h
 | .sl t,.s a e,.u,x,h,k| .sl t,.s a e,.n _,x,h,k| .sl t,.s a e,.p _ _,x,h,k=>by simp[Bd.le]at h
 | .pr _ _,.p a e,.u,x,h,k| .pr _ _,.p a e,.n _,x,h,k| .pr _ _,.p a e,.s _ _,x,h,k=>by simp[Bd.le]at h
 | .nat _,.u,_,_,_,k| .nat _,.s _ _,_,_,_,k| .nat _,.p _ _,_,_,_,k=>k.elim
 | .int _,.u,_,_,_,k| .int _,.s _ _,_,_,_,k| .int _,.p _ _,_,_,_,k=>k.elim
 | .str,.u,_,_,_,k| .str,.s _ _,_,_,_,k| .str,.p _ _,_,_,_,k=>k.elim
 | .mag,.u,_,_,_,k| .mag,.s _ _,_,_,_,k| .mag,.p _ _,_,_,_,k=>k.elim
 | .rat,.u,_,_,_,k| .rat,.s _ _,_,_,_,k| .rat,.p _ _,_,_,_,k=>k.elim
 | .sl _,.u,_,_,_,k| .sl _,.n _,_,_,_,k| .sl _,.p _ _,_,_,_,k=>k.elim
 | .pr _ _,.u,_,_,_,k| .pr _ _,.n _,_,_,_,k| .pr _ _,.s _ _,_,_,_,k=>k.elim
def ptV(H:Heap)(cells:List CAtom)(p:Value):Prop:= ∃b off arr,p= .pointer (some ⟨b,off,none⟩)/\H b=some arr/\CSats H cells ((arr.toList.drop off).take cells.length)
def ptP(cells:List CAtom):Pred where
 p H v:=ptV H cells v
 mono:=by rintro H H' v h ⟨b,off,arr,h1,h2,h3⟩;exact⟨b,off,arr,h1,h _ _ h2,CSats.mono h h3⟩
 one:=by rintro H v ⟨b,off,arr,rfl,_⟩;rfl
def clP(f:FuncId)(cells:List CAtom):Pred where
 p H v:= ∃q,v= .func (.func f) #[] #[q]/\ptV H cells q
 mono:=by rintro H H' v h ⟨q,h0,hq⟩;exact⟨q,h0,(ptP cells).mono h hq⟩
 one:=by rintro H v ⟨q,rfl,_⟩;rfl
def cellsC:(t:Ty)->t.den->List CAtom
 | .nat k,(x:Nat)=>[.val (.int k (x:Int))]
 | .int k,x=>[.val (.int k x)]
 | .bool,x=>[.val (.bool x)]
 | .str,x=>[.val (.string x)]
 | .mag,x=>[.abs (natP x)]
 | .rat,x=>[crc0 x,crc1 x,crc2 x]
 | .sl t,(l:List t.den)=>[.abs (flP (l.flatMap (cellsC t)) l.length)]
 | .pr a b,x=>cellsC a x.1++cellsC b x.2
 | .st t,x=>cellsC t x
 | .fn f,_=>[.val (.func (.func f) #[] #[])]
 | .pt t,x=>[.abs (ptP (cellsC t x))]
 | .cl f t,x=>[.abs (clP f (cellsC t x))]
def qO(t:Ty)(x:t.den):List Atom:=(cellsC t x).map CAtom.up
theorem jD: ∀(t:Ty)(x:t.den),(cellsC t x).length=t.w
 | .nat _,_| .int _,_| .bool,_| .str,_| .mag,_| .rat,_| .sl _,_| .fn _,_| .pt _,_| .cl _ _,_=>rfl
 | .pr a b,x=>by simp only[cellsC,q5G,jD a,jD b,Ty.w]
 | .st t,x=>jD t x
theorem zj(t:Ty)(x:t.den):(qO t x).length=t.w:=by simp[qO,jD]
theorem JE(k:Nat): ∀l:List CAtom,jA k (l.map CAtom.up)=false
 |[]=>rfl
 |a::l=>by cases a<;>simp[jA,Atom.men,CAtom.up,JE k l]
theorem Eg(k:Nat)(t:Ty)(x:t.den):jA k (qO t x)=false:=JE k _
def jb(t:Ty)(l:List t.den):List CAtom:=l.flatMap (cellsC t)
def je(t:Ty)(l:List t.den):List Atom:=l.flatMap (qO t)
theorem v4(t:Ty): ∀l:List t.den,(jb t l).length=l.length*t.w
 |[]=>by simp[jb]
 |x::l=>by
  have:=v4 t l;unfold jb at this⊢;simp only[q5x,q5G,jD,this,q5H,q6y];omega
theorem vU(t:Ty)(l:List t.den):je t l=(jb t l).map CAtom.up:=by
 unfold je jb qO;rw[List.map_flatMap]
theorem zH(t:Ty)(l:List t.den):(je t l).length=l.length*t.w:=by rw[vU];simp[v4]
theorem DD(t:Ty): ∀(l:List t.den)(i:Nat),i<l.length->((jb t l).drop (i*t.w)).take t.w=cellsC t (gt t l i)
 |[],i,h=>by simp at h
 |x::l,0,_=>by
  have e:jb t (x::l)=cellsC t x++jb t l:=by simp[jb]
  rw[q6B,q5v,e,q5X (by rw[jD];exact q6d _),q5Z (by rw[jD];exact q6d _)];rfl
 |x::l,i+1,h=>by
  have e:jb t (x::l)=cellsC t x++jb t l:=by simp[jb]
  rw[e,List.drop_append,q5u (by rw[jD,q6y];omega),q5V,jD,show(i+1)*t.w-t.w=i*t.w by rw[q6y];omega];rw[DD t l i (by simpa using h)];rfl
theorem BH(t:Ty): ∀(l:List t.den)(i:Nat),(jb t l).drop (i*t.w)=jb t (l.drop i)
 |[],i=>by simp[jb]
 |x::l,0=>by simp
 |x::l,i+1=>by
  have e:jb t (x::l)=cellsC t x++jb t l:=by simp[jb]
  rw[e,List.drop_append,q5u (by rw[jD,q6y];omega),q5V,jD,show(i+1)*t.w-t.w=i*t.w by rw[q6y];omega];rw[BH t l i];rfl
theorem A9(t:Ty): ∀(l:List t.den)(i:Nat),(jb t l).take (i*t.w)=jb t (l.take i)
 |[],i=>by simp[jb]
 |x::l,0=>by simp[jb]
 |x::l,i+1=>by
  have e:jb t (x::l)=cellsC t x++jb t l:=by simp[jb]
  rw[e,List.take_append,q5Z (by rw[jD,q6y];omega),jD,show(i+1)*t.w-t.w=i*t.w by rw[q6y];omega];rw[A9 t l i];simp[jb]
theorem Nk(t:Ty)(l:List t.den)(i:Nat)(h:i<l.length):((je t l).drop (i*t.w)).take t.w=qO t (gt t l i):=by
 rw[vU,<-List.map_drop,<-List.map_take,DD t l i h];rfl
theorem EY(t:Ty)(l:List t.den)(i:Nat):(je t l).drop (i*t.w)=je t (l.drop i):=by
 rw[vU,<-List.map_drop,BH,<-vU]
theorem EZ(t:Ty)(l:List t.den)(i:Nat):(je t l).take (i*t.w)=je t (l.take i):=by
 rw[vU,<-List.map_take,A9,<-vU]
theorem Cu(t:Ty)(l l':List t.den):je t (l++l')=je t l++je t l':=by simp[je]
theorem Sw(t:Ty)(l l':List t.den):jb t (l++l')=jb t l++jb t l':=by simp[jb]
theorem L4(t:Ty)(l:List t.den)(i:Nat)(x:t.den)(h:i<l.length):spl (je t l) (i*t.w) (qO t x)=je t (l.set i x):=by
 have e:l.set i x=l.take i++x::l.drop (i+1):=by
  rw[List.set_eq_take_append_cons_drop,if_pos h]
 unfold spl;rw[e,zj,show i*t.w+t.w=(i+1)*t.w by rw[q6y],EZ,EY,Cu];simp[je]
theorem zI(k:Nat)(t:Ty)(l:List t.den):jA k (je t l)=false:=by rw[vU];exact JE k _
theorem IJ(ls:List Nat):Py ls=jb (.nat .u32) ls:=by
 induction ls with
 |nil=>rfl
 |cons a l ih=>rw[show jb (.nat .u32) (a::l)=cellsC (.nat .u32) a++jb (.nat .u32) l from rfl,<-ih];rfl
theorem Fd(n:Nat):natP n=flP (jb (.nat .u32) (limbs n)) (limbs n).length:=by rw[<-IJ]
theorem BM(n:Nat):qO .mag n=qO (.sl (.nat .u32)) (limbs n):=by
 show[Atom.abs (natP n)]=[Atom.abs (flP (jb (.nat .u32) (limbs n)) (limbs n).length)];rw[Fd]
theorem JP(d:Nat):[Atom.abs (denP d)]=qO (.sl (.nat .u32)) (denL d):=by
 show[Atom.abs (flP (Py (denL d)) _)]=[Atom.abs (flP (jb (.nat .u32) (denL d)) _)];rw[IJ]
def bqP(C:Prop):Pred where
 p _ v:= ∃b:Bool,v= .bool b/\(b=true->C)
 mono:=by rintro H H' v _ h;exact h
 one:=by rintro H v ⟨b,rfl,_⟩;rfl
def unP:Pred where
 p _ v:=v.oneC=true
 mono:=by rintro H H' v _ h;exact h
 one:=by rintro H v h;exact h
inductive WA where
 |dt (t:Ty) (b:Bd) (x:t.den)
 |kn (kd:IntKind) (z:Int)
 |vl (u:Value)
 |pp (q:Prop) (i:Decidable q)
 |loc (k off:Nat)
 |el (k i fo w:Nat)
 |ip (t:Ty) (b:Bd) (x:t.den) (fo:Nat)
 |ls (k:Nat) (lo:Option Nat) (n cap w nb:Nat)
 |gs (k n w nb:Nat)
 |so (k lo n w nb:Nat)
 |nn (t:Ty) (b:Bd) (l:List t.den)
 |bq (C:Prop)
 |un
 |mp (k:Nat)
 |fc (t:Ty) (b:Bd) (l:List t.den)
def WA.exp:WA->List Atom
 | .dt t _ x=>qO t x
 | .kn kd z=>[.val (.int kd z)]
 | .vl u=>[.val u]
 | .pp q i=>[.val (.bool (@decide q i))]
 | .loc k off=>[.loc k off]
 | .el k i fo w=>[.loc k (i*w+fo)]
 | .ip t _ x fo=>[.ptr ((cellsC t x).drop fo)]
 | .ls k lo n cap w _=>[.sl k (lo.getD 0*w) n cap]
 | .gs k n _ _=>[.gs k n]
 | .so k lo n w _=>[.so k (lo*w) lo n]
 | .nn t _ l=>[.abs (nnP (jb t l) l.length)]
 | .bq C=>[.abs (bqP C)]
 | .un=>[.abs unP]
 | .mp k=>[.mp k]
 | .fc t _ l=>[.abs (fcP (jb t l) l.length)]
def WA.wd:WA->Nat
 | .dt t _ _=>t.w
 |_=>1
theorem WA.exp_len(a:WA):a.exp.length=a.wd:=by cases a<;>first|rfl|exact zj _ _
def WA.ok:WA->Prop
 | .dt t b x=>Bnd t b x
 | .vl u=>u.oneC=true
 | .ip t b x _=>Bnd t b x
 | .ls _ _ n cap _ nb=>n<=cap/\n<=nb
 | .gs _ n _ nb=>n<=nb
 | .so _ _ n _ nb=>n<=nb
 | .nn t b l=>Bnd (.sl t) b l
 | .fc t b l=>Bnd (.sl t) b l
 |_=>True
def WA.ids:WA->List Nat
 | .loc k _| .el k _ _ _| .ls k _ _ _ _ _| .gs k _ _ _| .so k _ _ _ _| .mp k=>[k]
 |_=>[]
theorem WA.men_ids{a:WA}{k:Nat}(h:jA k a.exp=true):k∈a.ids:=by
 cases a with
 |dt t b x=>rw[show jA k (WA.exp (.dt t b x))=false from Eg k t x]at h;cases h
 |_=>simp_all [WA.exp,jA,Atom.men,WA.ids]
def WAs.exp(l:List WA):List Atom:=l.flatMap WA.exp
def WAs.wd:List WA->Nat
 |[]=>0
 |a::l=>a.wd+WAs.wd l
theorem WAs.exp_len: ∀l:List WA,(WAs.exp l).length=WAs.wd l
 |[]=>rfl
 |a::l=>by
  have:=WAs.exp_len l;unfold WAs.exp at this⊢;simp only[q5x,q5G,WA.exp_len,this,WAs.wd]
def WAs.ids(l:List WA):List Nat:=l.flatMap WA.ids
theorem GC{k:Nat}: ∀{l l':List Atom},jA k (l++l')=(jA k l||jA k l')
 |[],_=>rfl
 |a::l,l'=>by simp only[List.cons_append,jA,GC,Bool.or_assoc]
theorem WAs.men_ids{k:Nat}: ∀{l:List WA},jA k (WAs.exp l)=true->k∈WAs.ids l
 |[],h=>by simp[WAs.exp,jA]at h
 |a::l,h=>by
  unfold WAs.exp at h;rw[q5x,GC,Bool.or_eq_true]at h;unfold WAs.ids;rw[q5x,q5N];exact h.imp WA.men_ids (λh=>WAs.men_ids h)
def WAs.ok(l:List WA):Prop:= ∀a∈l,a.ok
inductive WC where
 |one (a:WA)
 |agg (l:List WA)
inductive WV where
 |c (x:WC)
 |tup (l:List WC)
def WC.cells:WC->List WA
 | .one a=>[a]
 | .agg l=>l
def WC.exp:WC->Cmp
 | .one a=> .one (a.exp.headD (.val (.bool false)))
 | .agg l=> .agg (WAs.exp l)
def WV.exp:WV->AV
 | .c x=> .c x.exp
 | .tup l=> .tup (l.map WC.exp)
def WC.ok:WC->Prop
 | .one a=>a.ok/\a.wd=1
 | .agg l=>WAs.ok l
def WV.ok:WV->Prop
 | .c x=>x.ok
 | .tup l=> ∀x∈l,x.ok
def WC.ids:WC->List Nat
 | .one a=>a.ids
 | .agg l=>WAs.ids l
def WV.ids:WV->List Nat
 | .c x=>x.ids
 | .tup l=>l.flatMap WC.ids
theorem WA.exp_one{a:WA}(h:a.wd=1):a.exp=[a.exp.headD (.val (.bool false))]:=by
 have:=a.exp_len;rw[h]at this
 match he:a.exp,this with
 |[x],_=>rfl
theorem WC.exp_cells{x:WC}(h:x.ok):x.exp.cells=WAs.exp x.cells:=by
 cases x with
 |one a=>show[_]=WAs.exp [a];simp only[WAs.exp,q5x,List.flatMap_nil,List.append_nil];exact(WA.exp_one h.2).symm
 |agg l=>rfl
theorem WC.men_ids{x:WC}{k:Nat}(h:x.exp.men k=true):k∈x.ids:=by
 cases x with
 |one a=>
  simp only[WC.exp,Cmp.men]at h;refine WA.men_ids (a:=a) ?_
  match he:a.exp,h with
  |[],h=>simp[Atom.men]at h
  |y::r,h=>simp only[List.headD_cons]at h;simp[jA,h]
 |agg l=>exact WAs.men_ids h
theorem WV.men_ids{x:WV}{k:Nat}(h:x.exp.men k=true):k∈x.ids:=by
 cases x with
 |c a=>exact WC.men_ids h
 |tup l=>
  simp only[WV.exp,AV.men]at h;simp only[WV.ids,q6O]
  induction l with
  |nil=>simp[menC]at h
  |cons a l ih=>
   simp only[q5M,menC,Bool.or_eq_true]at h;rcases h with h|h
   .exact⟨a,q5Q,WC.men_ids h⟩
   .obtain⟨b,hb,hk⟩:=ih h;exact⟨b,q5P _ hb,hk⟩
inductive WB where
 |rig (l:List WA)
 |arr (t:Ty) (b:Bd) (l:List t.den)
 |gro (t:Ty) (b:Bd) (l:List t.den)
 |mp (m:Nat) (L:List KV)
def WB.exp:WB->Blk
 | .rig l=> .rigid (WAs.exp l)
 | .arr t _ l=> .rigid (je t l)
 | .gro t _ l=> .grow t.w (je t l)
 | .mp _ L=> .mp (mpL L)
def WB.ok:WB->Prop
 | .rig l=>WAs.ok l
 | .arr t b l=> ∀x∈l,Bnd t b x
 | .gro t b l=> ∀x∈l,Bnd t b x
 | .mp m L=>MOk m L
def WB.ids:WB->List Nat
 | .rig l=>WAs.ids l
 |_=>[]
theorem WB.men_ids{x:WB}{k:Nat}(h:x.exp.men k=true):k∈x.ids:=by
 cases x with
 |rig l=>exact WAs.men_ids h
 |arr t b l=>simp only[WB.exp,Blk.men,zI]at h;cases h
 |gro t b l=>simp only[WB.exp,Blk.men,zI]at h;cases h
 |mp m L=>cases h
def Bd.nb:Bd->Nat
 |Bd.n b=>b
 |_=>0
def Bd.l:Bd->Bd
 | .p a _=>a
 |_=> .u
def Bd.r:Bd->Bd
 | .p _ b=>b
 |_=> .u
def Bd.e:Bd->Bd
 |Bd.s _ f=>f
 |_=> .u
def Bd.len:Bd->Nat
 |Bd.s m _=>m
 |_=>0
def I9(b:Nat):Bd:= .s (b/32+1) (.n 4294967295)
theorem qq{n b:Nat}(h:n<=2^b):(limbs n).length<=b/32+1:=by
 refine G9 (q6f h ?_);rw[show(4294967296:Nat)=2^32 from rfl,<-Nat.pow_mul];exact Nat.pow_lt_pow_right (by decide) (by omega)
theorem Bnd.limbs{n b:Nat}(h:qM n b):Bnd (.sl (.nat .u32)) (I9 b) (limbs n):=
 ⟨qq (q6b h),λu hu=>q6c (jr n u hu)⟩
theorem Bnd.denL{d b:Nat}(h:le2 d b):Bnd (.sl (.nat .u32)) (I9 b) (denL d):=by
 unfold Sx.denL;split
 .exact⟨q6A _,λu hu=>by simp at hu⟩
 .exact⟨qq h,λu hu=>q6c (jr d u hu)⟩
theorem Bnd.pr{a b:Ty}{c:Bd}{x:(Ty.pr a b).den}(h:Bnd (.pr a b) c x):Bnd a c.l x.1/\Bnd b c.r x.2:=by
 cases c with
 |p e f=>exact h
 |_=>exact h.elim
theorem Bnd.rat{c:Bd}{x:Rat}(h:Bnd .rat c x):qM x.num.natAbs c.nb/\le2 x.den c.nb:=by
 cases c with
 |n b=>exact h
 |_=>exact h.elim
theorem Bnd.mag{c:Bd}{x:Nat}(h:Bnd .mag c x):qM x c.nb:=by
 cases c with
 |n b=>exact h
 |_=>exact h.elim
theorem Bnd.sl{t:Ty}{c:Bd}{l:List t.den}(h:Bnd (.sl t) c l):l.length<=c.len/\ ∀x∈l,Bnd t c.e x:=by
 cases c with
 |s m f=>exact h
 |_=>exact h.elim
theorem Bnd.nat{k:IntKind}{c:Bd}{x:Nat}(h:Bnd (.nat k) c x):x<=c.nb:=by
 cases c with
 |n b=>exact h
 |_=>exact h.elim
theorem Bnd.int{k:IntKind}{c:Bd}{x:Int}(h:Bnd (.int k) c x):x.natAbs<=c.nb:=by
 cases c with
 |n b=>exact h
 |_=>exact h.elim
theorem Bnd.gt{t:Ty}{e:Bd}{l:List t.den}(h: ∀x∈l,Bnd t e x){i:Nat}(hi:i<l.length):Bnd t e (gt t l i):=by
 refine h _ ?_;unfold Sx.gt;rw[q5y,q5C hi];exact q6M hi
def ratP(b:Bd)(x:Rat):List WA:=[.pp (x.num<0) inferInstance,.dt .mag (.n b.nb) x.num.natAbs,.dt (.sl (.nat .u32)) (I9 b.nb) (denL x.den)]
theorem Tt(b:Bd)(x:Rat):WAs.exp (ratP b x)=qO .rat x:=by
 show[Atom.val (.bool _)]++([Atom.abs _]++(qO (.sl (.nat .u32)) (denL x.den)++[]))=_;rw[<-JP];rfl
theorem XF{b:Bd}{x:Rat}(h:Bnd .rat b x):WAs.ok (ratP b x):=by
 have h:=Bnd.rat h;intro a ha;simp only[ratP,q5O,q5W,or_false]at ha;rcases ha with rfl|rfl|rfl
 .trivial
 .exact h.1
 .exact Bnd.denL h.2
def cutW:Nat->List WA->Nat->Option (List WA×List WA)
 |0,_,_=>none
 |_+1,l,0=>some ([],l)
 |_+1,[],_+1=>none
 |f+1,a::r,n+1=>bif Nat.ble a.wd (n+1)then(match cutW f r (n+1-a.wd)with|some (x,y)=>some (a::x,y)|none=>none)
  else match a with
   | .dt (.pr t u) b x=>cutW f (.dt t b.l x.1:: .dt u b.r x.2::r) (n+1)
   | .dt (.st t) b x=>cutW f (.dt t b x::r) (n+1)
   | .dt .rat b x=>cutW f (ratP b x++r) (n+1)
   |_=>none
theorem WAs.exp_cons(a:WA)(l:List WA):WAs.exp (a::l)=a.exp++WAs.exp l:=by simp[WAs.exp]
theorem WAs.exp_app(l l':List WA):WAs.exp (l++l')=WAs.exp l++WAs.exp l':=by simp[WAs.exp]
theorem WAs.ok_cons{a:WA}{l:List WA}:WAs.ok (a::l)↔a.ok/\WAs.ok l:=by simp[WAs.ok]
theorem WAs.ok_app{l l':List WA}:WAs.ok (l++l')↔WAs.ok l/\WAs.ok l':=by
 simp only[WAs.ok,q5N];exact⟨λh=>⟨λa ha=>h a (.inl ha),λa ha=>h a (.inr ha)⟩,λh a ha=>ha.elim (h.1 a) (h.2 a)⟩
theorem Ab: ∀{f:Nat}{l:List WA}{n:Nat}{x y:List WA},cutW f l n=some (x,y)->WAs.exp l=WAs.exp x++WAs.exp y/\(WAs.exp x).length=n/\(WAs.ok l->WAs.ok x/\WAs.ok y)
 |0,_,_,_,_,h=>by simp[cutW]at h
 |_+1,l,0,x,y,h=>by
  simp[cutW]at h;obtain⟨rfl,rfl⟩:=h
  exact⟨rfl,rfl,λh=>⟨λa ha=>by simp at ha,h⟩⟩
 |_+1,[],_+1,_,_,h=>by simp[cutW]at h
 |f+1,a::r,n+1,x,y,h=>by
  simp only[cutW]at h
  cases hb:Nat.ble a.wd (n+1)with
  |true=>
   rw[hb]at h;simp only[cond_true]at h
   cases hc:cutW f r (n+1-a.wd)with
   |none=>rw[hc]at h;cases h
   |some q=>
    obtain⟨x',y'⟩:=q;rw[hc]at h;simp only[q6E,q6F]at h;obtain⟨rfl,rfl⟩:=h
    obtain⟨h1,h2,h3⟩:=Ab hc;have hle:=q6a hb;refine⟨by rw[WAs.exp_cons,h1,WAs.exp_cons,q5s],by rw[WAs.exp_cons,q5G,h2,WA.exp_len];omega,λhk=>?_⟩;rw[WAs.ok_cons]at hk⊢;exact⟨⟨hk.1,(h3 hk.2).1⟩,(h3 hk.2).2⟩
  |false=>
   rw[hb]at h;simp only[cond_false]at h
   split at h
   .rename_i t u b z
    obtain⟨h1,h2,h3⟩:=Ab h;refine⟨?_,h2,λhk=>h3 ?_⟩
    .rw[<-h1,WAs.exp_cons,WAs.exp_cons,WAs.exp_cons,<-q5s]
     congr 1
     show qO _ _=qO _ _++qO _ _;simp[qO,cellsC]
    .rw[WAs.ok_cons]at hk
     rw[WAs.ok_cons,WAs.ok_cons];exact⟨(Bnd.pr hk.1).1,(Bnd.pr hk.1).2,hk.2⟩
   .rename_i t b z
    obtain⟨h1,h2,h3⟩:=Ab h;refine⟨?_,h2,λhk=>h3 ?_⟩
    .rw[<-h1,WAs.exp_cons,WAs.exp_cons];rfl
    .rw[WAs.ok_cons]at hk⊢
     exact⟨hk.1,hk.2⟩
   .rename_i b z
    obtain⟨h1,h2,h3⟩:=Ab h;refine⟨?_,h2,λhk=>h3 ?_⟩
    .rw[<-h1,WAs.exp_app,Tt,WAs.exp_cons];rfl
    .rw[WAs.ok_cons]at hk
     rw[WAs.ok_app];exact⟨XF hk.1,hk.2⟩
   .cases h
def carve(l:List WA)(off s:Nat):Option (List WA×List WA×List WA):=
 match cutW 400 l off with
 |some (a,r)=>match cutW 400 r s with
  |some (m,p)=>some (a,m,p)
  |none=>none
 |none=>none
theorem vr{l:List WA}{off s:Nat}{a m p:List WA}(h:carve l off s=some (a,m,p)):
  WAs.exp l=WAs.exp a++(WAs.exp m++WAs.exp p)/\(WAs.exp a).length=off/\(WAs.exp m).length=s/\(WAs.ok l->WAs.ok a/\WAs.ok m/\WAs.ok p):=by
 unfold carve at h
 cases h1:cutW 400 l off with
 |none=>rw[h1]at h;cases h
 |some q=>
  obtain⟨a',r⟩:=q;rw[h1]at h;simp only at h
  cases h2:cutW 400 r s with
  |none=>rw[h2]at h;cases h
  |some q=>
   obtain⟨m',p'⟩:=q;rw[h2]at h;simp only[q6E,q6F]at h;obtain⟨rfl,rfl,rfl⟩:=h
   obtain⟨e1,l1,o1⟩:=Ab h1;obtain⟨e2,l2,o2⟩:=Ab h2;exact⟨by rw[e1,e2],l1,l2,λhk=>⟨(o1 hk).1,o2 (o1 hk).2⟩⟩
theorem wg{l:List WA}{off s:Nat}{a m p:List WA}(h:carve l off s=some (a,m,p)):((WAs.exp l).drop off).take s=WAs.exp m/\off+s<=(WAs.exp l).length:=by
 obtain⟨e,l1,l2,_⟩:=vr h;rw[e];refine⟨?_,by simp only[q5G];omega⟩;rw[List.drop_append,q5u (by omega),q5V,l1,Nat.sub_self,q5v,q5X (by omega),q5Z (by omega)]
theorem F1{l:List WA}{off s:Nat}{a m p x:List WA}(h:carve l off s=some (a,m,p))(hx:(WAs.exp x).length=s):spl (WAs.exp l) off (WAs.exp x)=WAs.exp (a++(x++p)):=by
 obtain⟨e,l1,l2,_⟩:=vr h;unfold spl;rw[e,WAs.exp_app,WAs.exp_app,q5X (by omega),q5Z (by omega)]
 congr 2
 rw[List.drop_append,q5u (by omega),q5V,List.drop_append,q5u (by omega),q5V,show off+(WAs.exp x).length-(WAs.exp a).length-(WAs.exp m).length=0 by omega,q5v]
def IK:(t:Ty)->Bd->t.den->WA
 | .st t,b,x=>IK t b x
 |t,b,x=> .dt t b x
def unst:WA->WA
 | .dt t b x=>IK t b x
 |a=>a
theorem IL: ∀(t:Ty)(b:Bd)(x:t.den),(IK t b x).exp=qO t x/\(Bnd t b x->(IK t b x).ok)/\(IK t b x).wd=t.w
 | .st t,b,x=>IL t b x
 | .nat _,_,_| .int _,_,_| .bool,_,_| .str,_,_| .mag,_,_| .rat,_,_| .sl _,_,_| .pr _ _,_,_| .fn _,_,_| .pt _,_,_| .cl _ _,_,_=>⟨rfl,λh=>h,rfl⟩
theorem Sa(a:WA):(unst a).exp=a.exp/\(a.ok->(unst a).ok)/\(unst a).wd=a.wd:=by
 cases a with
 |dt t b x=>exact IL t b x
 |_=>exact⟨rfl,λh=>h,rfl⟩
theorem vm: ∀{l:List Atom},AImps l l
 |[]=>trivial
 |_::_=>⟨Nj,vm⟩
theorem zX: ∀{a a' b b':List Atom},AImps a a'->AImps b b'->AImps (a++b) (a'++b')
 |[],[],_,_,_,h=>h
 |_::_,_::_,_,_,h,k=>⟨h.1,zX h.2 k⟩
 |[],_::_,_,_,h,_=>h.elim
 |_::_,[],_,_,h,_=>h.elim
theorem Ca: ∀{a b:List Atom},AImps a b->a.length=b.length
 |[],[],_=>rfl
 |_::_,_::_,h=>by simp[Ca h.2]
 |[],_::_,h=>h.elim
 |_::_,[],h=>h.elim
theorem Yl{l l':List Atom}(h:l=l'):AImps l l':=h▸vm
theorem DT(t:Ty):AImps [.val (.slice none 0 0)] (qO (.sl t) []):=
 ⟨λβ H v⟨h,_⟩=>by subst h;exact⟨none,0,rfl,q6d _,.inl rfl⟩,trivial⟩
theorem q2a(t:Ty)(l:List t.den):AImps [.abs (nnP (jb t l) l.length)] (qO (.sl t) l):=⟨λβ H v h=>Rk H v h,trivial⟩
def zm:WA->Bool
 | .vl (.slice none n c)=>Nat.beq n 0&&Nat.beq c 0
 |_=>false
theorem wt{a:WA}(h:zm a=true):a= .vl (.slice none 0 0):=by
 unfold zm at h;split at h
 .simp only[q5m]at h
  rw[q68 h.1,q68 h.2]
 .cases h
def G4:WA->Bool
 | .vl (.bool b)=>!b
 |_=>false
theorem OV{a:WA}(h:G4 a=true):a= .vl (.bool false):=by
 unfold G4 at h;split at h
 .simp at h;rw[h]
 .cases h
def isFn(f:FuncId):WA->Bool
 | .vl (.func (.func g) a b)=>Nat.beq f g&&Nat.beq a.size 0&&Nat.beq b.size 0
 |_=>false
theorem NJ{f:FuncId}{a:WA}(h:isFn f a=true):a= .vl (.func (.func f) #[] #[]):=by
 unfold isFn at h;split at h
 .rename_i g x y
  simp only[q5m]at h;obtain⟨⟨h1,h2⟩,h3⟩:=h;rw[q68 h1,q5l (q68 h2),q5l (q68 h3)]
 .cases h
abbrev vi:{t t':Ty}->t.beq t'=true->t.den->t'.den
 | .nat _,.nat _,_,x=>x
 | .int _,.int _,_,x=>x
 | .mag,.mag,_,x=>x
 | .rat,.rat,_,x=>x
 |_,_,h,x=>(Ty.beq_eq h)▸x
theorem Dx{t:Ty}(h:t.beq t=true)(x:t.den):vi h x=x:=by cases t<;>rfl
def same(t:Ty):List WA->Option (Bd×t.den×List WA)
 | .dt t' b x::r=>if h:t'.beq t=true then some (b,vi h x,r)else none
 |_=>none
theorem Fq{t:Ty}{l r:List WA}{b:Bd}{x:t.den}(h:same t l=some (b,x,r)):l= .dt t b x::r:=by
 unfold same at h;split at h
 .rename_i t' b' x' r'
  split at h
  .rename_i hb
   have:=Ty.beq_eq hb;subst this;simp only[Dx,q6E,q6F]at h;obtain⟨rfl,rfl,rfl⟩:=h;rfl
  .cases h
 .cases h
def leaf:(t:Ty)->List WA->Option (Bd×t.den×List WA)
 | .nat k,.kn k' (.ofNat n)::r=>bif kbeq k k' then some (.n n,n,r)else none
 | .int k,.kn k' z::r=>bif kbeq k k' then some (.n z.natAbs,z,r)else none
 | .int k,.dt (.nat k') b (x:Nat)::r=>bif kbeq k k' then some (.n b.nb,(x:Int),r)else none
 | .bool,.pp q i::r=>some (.u,@decide q i,r)
 | .bool,.vl (.bool b)::r=>some (.u,b,r)
 | .str,.vl (.string s)::r=>some (.n s.size,s,r)
 | .mag,a::r=>bif zm a then some (.n 0,(0:Nat),r)else none
 | .rat,a::b::c::r=>bif G4 a&&zm b&&zm c then some (.n 0,(0:Rat),r)else none
 | .sl (.nat .u32),.dt .mag b x::r=>some (I9 b.nb,limbs x,r)
 | .sl t,.nn t' b l::r=>if h:(Ty.sl t').beq (.sl t)=true then some (b,vi h l,r)else none
 | .sl _,a::r=>bif zm a then some (.s 0 .u,[],r)else none
 | .fn f,a::r=>bif isFn f a then some (.u,(),r)else none
 |_,_=>none
def reify:(t:Ty)->List WA->Option (Bd×t.den×List WA)
 |t,l=>match same t l with
  |some q=>some q
  |none=>match t with
   | .pr a b=>match reify a l with
    |some (b1,x,r)=>match reify b r with
     |some (b2,y,r')=>some (.p b1 b2,(x,y),r')
     |none=>none
    |none=>none
   | .st a=>match reify a l with
    |some (b,x,r)=>some (b,x,r)
    |none=>none
   |t=>leaf t l
def Rd(t:Ty)(l:List WA)(b:Bd)(x:t.den)(r:List WA):Prop:=
 ∃m,WAs.exp l=m++WAs.exp r/\AImps m (qO t x)/\(WAs.ok l->Bnd t b x/\WAs.ok r)
theorem R5{t:Ty}{l r:List WA}{b:Bd}{x:t.den}(h:leaf t l=some (b,x,r)):Rd t l b x r:=by
 unfold leaf at h;split at h
 .rename_i k k' n r'
  cases hk:kbeq k k' with
  |false=>rw[hk]at h;cases h
  |true=>
   rw[hk]at h;simp only[cond_true,q6E,q6F]at h;obtain⟨rfl,rfl,rfl⟩:=h
   have:=vG hk;subst this
   exact⟨_,WAs.exp_cons _ _,vm,λh=>⟨q6d _,(WAs.ok_cons.1 h).2⟩⟩
 .rename_i k k' n r'
  cases hk:kbeq k k' with
  |false=>rw[hk]at h;cases h
  |true=>
   rw[hk]at h;simp only[cond_true,q6E,q6F]at h;obtain⟨rfl,rfl,rfl⟩:=h
   have:=vG hk;subst this
   exact⟨_,WAs.exp_cons _ _,vm,λh=>⟨q6d _,(WAs.ok_cons.1 h).2⟩⟩
 .rename_i k k' b' x' r'
  cases hk:kbeq k k' with
  |false=>rw[hk]at h;cases h
  |true=>
   rw[hk]at h;simp only[cond_true,q6E,q6F]at h;obtain⟨rfl,rfl,rfl⟩:=h
   have:=vG hk;subst this
   exact⟨_,WAs.exp_cons _ _,vm,λh=>⟨by have:=Bnd.nat (WAs.ok_cons.1 h).1;show Int.natAbs (Int.ofNat _)<=_;simpa using this,(WAs.ok_cons.1 h).2⟩⟩
 .simp only[q6E,q6F]at h;obtain⟨rfl,rfl,rfl⟩:=h
  exact⟨_,WAs.exp_cons _ _,vm,λh=>⟨trivial,(WAs.ok_cons.1 h).2⟩⟩
 .simp only[q6E,q6F]at h;obtain⟨rfl,rfl,rfl⟩:=h
  exact⟨_,WAs.exp_cons _ _,vm,λh=>⟨trivial,(WAs.ok_cons.1 h).2⟩⟩
 .simp only[q6E,q6F]at h;obtain⟨rfl,rfl,rfl⟩:=h
  exact⟨_,WAs.exp_cons _ _,vm,λh=>⟨q6d _,(WAs.ok_cons.1 h).2⟩⟩
 .rename_i a r'
  cases ha:zm a with
  |false=>rw[ha]at h;cases h
  |true=>
   rw[ha]at h;simp only[cond_true,q6E,q6F]at h;obtain⟨rfl,rfl,rfl⟩:=h
   have:=wt ha;subst this
   exact⟨_,WAs.exp_cons _ _,by rw[BM];exact DT _,λh=>⟨show(0:Nat)<2^0 from by decide,(WAs.ok_cons.1 h).2⟩⟩
 .rename_i a b' c r'
  cases ha:G4 a&&zm b'&&zm c with
  |false=>rw[ha]at h;cases h
  |true=>
   rw[ha]at h;simp only[cond_true,q6E,q6F]at h;obtain⟨rfl,rfl,rfl⟩:=h
   simp only[q5m]at ha;obtain⟨⟨h1,h2⟩,h3⟩:=ha;have:=OV h1;subst this
   have:=wt h2;subst this
   have:=wt h3;subst this
   refine⟨[.val (.bool false),.val (.slice none 0 0),.val (.slice none 0 0)],rfl,⟨Nj,?_,?_,trivial⟩,λh=>⟨⟨show(0:Nat)<2^0 from by decide,show(1:Nat)<=2^0 from by decide⟩,(WAs.ok_cons.1 (WAs.ok_cons.1 (WAs.ok_cons.1 h).2).2).2⟩⟩
   .have:=(DT (.nat .u32)).1
    intro β H v hv;exact this β H v hv
   .have:=(DT (.nat .u32)).1
    intro β H v hv;exact this β H v hv
 .rename_i b' x' r'
  simp only[q6E,q6F]at h;obtain⟨rfl,rfl,rfl⟩:=h
  exact⟨_,WAs.exp_cons _ _,Yl (BM _),λh=>⟨Bnd.limbs (Bnd.mag (WAs.ok_cons.1 h).1),(WAs.ok_cons.1 h).2⟩⟩
 .rename_i t t' b' l' r' _
  split at h
  .rename_i hb
   have:=Ty.beq_eq hb;cases this;simp only[q6E,q6F]at h;obtain⟨rfl,rfl,rfl⟩:=h;exact⟨_,WAs.exp_cons _ _,q2a _ _,λh=>⟨(WAs.ok_cons.1 h).1,(WAs.ok_cons.1 h).2⟩⟩
  .cases h
 .rename_i t a r' _ _
  cases ha:zm a with
  |false=>rw[ha]at h;cases h
  |true=>
   rw[ha]at h;simp only[cond_true,q6E,q6F]at h;obtain⟨rfl,rfl,rfl⟩:=h
   have:=wt ha;subst this
   exact⟨_,WAs.exp_cons _ _,DT _,λh=>⟨⟨q6d _,λx hx=>by simp at hx⟩,(WAs.ok_cons.1 h).2⟩⟩
 .rename_i f a r'
  cases ha:isFn f a with
  |false=>rw[ha]at h;cases h
  |true=>
   rw[ha]at h;simp only[cond_true,q6E,q6F]at h;obtain⟨rfl,_,rfl⟩:=h
   have:=NJ ha;subst this
   exact⟨_,WAs.exp_cons _ _,vm,λh=>⟨trivial,(WAs.ok_cons.1 h).2⟩⟩
 .cases h
theorem vv: ∀{t:Ty}{l r:List WA}{b:Bd}{x:t.den},reify t l=some (b,x,r)->Rd t l b x r:=by
 intro t
 induction t with
 |pr a b iha ihb=>
  intro l r bd x h;unfold reify at h
  cases hs:same (.pr a b) l with
  |some q=>
   rw[hs]at h;simp only[q6E]at h;subst h
   have:=Fq hs;subst this
   exact⟨_,WAs.exp_cons _ _,vm,λh=>WAs.ok_cons.1 h⟩
  |none=>
   rw[hs]at h;simp only at h
   cases h1:reify a l with
   |none=>rw[h1]at h;cases h
   |some q=>
    obtain⟨b1,y,r1⟩:=q;rw[h1]at h;simp only at h
    cases h2:reify b r1 with
    |none=>rw[h2]at h;cases h
    |some q=>
     obtain⟨b2,z,r2⟩:=q;rw[h2]at h;simp only[q6E,q6F]at h;obtain⟨rfl,rfl,rfl⟩:=h
     obtain⟨m1,e1,i1,o1⟩:=iha h1;obtain⟨m2,e2,i2,o2⟩:=ihb h2;refine⟨m1++m2,by rw[e1,e2,q5s],?_,λhk=>⟨⟨(o1 hk).1,(o2 (o1 hk).2).1⟩,(o2 (o1 hk).2).2⟩⟩;have:qO (.pr a b) (y,z)=qO a y++qO b z:=by simp[qO,cellsC]
     rw[this];exact zX i1 i2
 |st a iha=>
  intro l r bd x h;unfold reify at h
  cases hs:same (.st a) l with
  |some q=>
   rw[hs]at h;simp only[q6E]at h;subst h
   have:=Fq hs;subst this
   exact⟨_,WAs.exp_cons _ _,vm,λh=>WAs.ok_cons.1 h⟩
  |none=>
   rw[hs]at h;simp only at h
   cases h1:reify a l with
   |none=>rw[h1]at h;cases h
   |some q=>
    obtain⟨b1,y,r1⟩:=q;rw[h1]at h;simp only[q6E,q6F]at h;obtain⟨rfl,rfl,rfl⟩:=h
    exact iha h1
 |_=>
  intro l r bd x h;unfold reify at h;split at h
  .rename_i q hs
   simp only[q6E]at h;subst h
   have:=Fq hs;subst this
   exact⟨_,WAs.exp_cons _ _,vm,λh=>WAs.ok_cons.1 h⟩
  .exact R5 h
def BImp(k:Nat)(b b':Blk):Prop:= ∀β w H,b.rep β w H k->b'.rep β w H k
def LImp:List (Nat×Option Blk)->List (Nat×Option Blk)->Prop
 |[],[]=>True
 |(k,none)::r,(k',none)::r'=>k=k'/\LImp r r'
 |(k,some b)::r,(k',some b')::r'=>k=k'/\BImp k b b'/\LImp r r'
 |_,_=>False
theorem LImp.keys: ∀{l l':List (Nat×Option Blk)},LImp l l'->l.map (λp=>(p.1,p.2.isSome))=l'.map (λp=>(p.1,p.2.isSome))
 |[],[],_=>rfl
 |(k,none)::r,(k',none)::r',h=>by simp[h.1,LImp.keys h.2]
 |(k,some b)::r,(k',some b')::r',h=>by simp[h.1,LImp.keys h.2.2]
 |(_,none)::_,(_,some _)::_,h=>h.elim
 |(_,some _)::_,(_,none)::_,h=>h.elim
 |[],_::_,h=>h.elim
 |(_,none)::_,[],h=>h.elim
 |(_,some _)::_,[],h=>h.elim
theorem LImp.get: ∀{l l':List (Nat×Option Blk)},LImp l l'-> ∀{k b'},(k,some b')∈l'-> ∃b,(k,some b)∈l/\BImp k b b'
 |[],[],_,_,_,hm=>by simp at hm
 |(k,none)::r,(k',none)::r',h,q,b',hm=>by
  rcases q5O.1 hm with e|hm
  .cases e
  .obtain⟨b,hb,hi⟩:=LImp.get h.2 hm;exact⟨b,q5P _ hb,hi⟩
 |(k,some b)::r,(k',some b1)::r',h,q,b',hm=>by
  rcases q5O.1 hm with e|hm
  .cases e;obtain⟨rfl,h2,_⟩:=h;exact⟨b,q5Q,h2⟩
  .obtain⟨b,hb,hi⟩:=LImp.get h.2.2 hm;exact⟨b,q5P _ hb,hi⟩
 |(_,none)::_,(_,some _)::_,h,_,_,_=>h.elim
 |(_,some _)::_,(_,none)::_,h,_,_,_=>h.elim
 |[],_::_,h,_,_,_=>h.elim
 |(_,none)::_,[],h,_,_,_=>h.elim
 |(_,some _)::_,[],h,_,_,_=>h.elim
theorem Xc{kin kin':List (Nat×Blk)}{l l':List (Nat×Option Blk)}(h:l.map (λp=>(p.1,p.2.isSome))=l'.map (λp=>(p.1,p.2.isSome)))(hk: ∀k,(look kin k).isSome=(look kin' k).isSome):
  kwOf kin l=kwOf kin' l'/\qX kin l=qX kin' l'/\vg l=vg l':=by
 have h1:l.map (·.1)=l'.map (·.1):=by
  have:=congrArg (List.map Prod.fst) h;simpa[List.map_map,Function.comp_def]using this
 have hf: ∀(l:List (Nat×Option Blk))(q:Bool),(l.filter λp=>p.2.isSome==q).map (·.1)=((l.map λp=>(p.1,p.2.isSome)).filter λp=>p.2==q).map (·.1):=by
  intro l q
  induction l with
  |nil=>rfl
  |cons a l ih=>simp only[List.filter_cons,q5M];cases a.2.isSome==q<;>simp[ih]
 have h2: ∀q,(l.filter λp=>p.2.isSome==q).map (·.1)=(l'.filter λp=>p.2.isSome==q).map (·.1):=λq=>by rw[hf,hf,h]
 have e1: ∀l:List (Nat×Option Blk),(l.filter (·.2.isSome))=l.filter λp=>p.2.isSome==true:=λl=>by congr;funext p;simp
 have e2: ∀l:List (Nat×Option Blk),(l.filter (·.2.isNone))=l.filter λp=>p.2.isSome==false:=λl=>by congr;funext p;cases p.2<;>rfl
 refine⟨?_,?_,?_⟩
 .unfold kwOf;rw[h1];congr;funext k;rw[hk]
 .unfold qX;rw[e1,e1,h2]
  congr;funext k
  have:=hk k;cases h3:look kin k<;>cases h4:look kin' k<;>simp_all
 .unfold vg;rw[e2,e2,h2]
theorem OpOk.weak{P:Program}{op:Op}{ty:TypeId}{ins:List (Operand×AV)}{kin:List (Nat×Blk)}{R R':AV}{Lw Lw':List (Nat×Option Blk)}(h:OpOk P op ty ins kin R Lw)
  (hR: ∀β H v,R.sat β H v->R'.sat β H v)(hL:LImp Lw Lw'):OpOk P op ty ins kin R' Lw':=by
 intro dst pos after guard a w H β K Q h1 h2 h3 h4 hK;refine h dst pos after guard a w H β K Q h1 h2 h3 h4 ?_;intro v w' H' β' hs hr hl;obtain⟨e1,e2,e3⟩:=Xc (kin:=kin) (kin':=kin) hL.keys (λ_=>rfl);refine hK v w' H' β' (by rw[<-e1,<-e2,<-e3];exact hs) (hR _ _ _ hr) ?_;intro k b' hb;obtain⟨b,hm,hi⟩:=hL.get hb;exact hi _ _ _ (hl k b hm)
theorem zM{k:Nat}{l l':List Atom}(h:AImps l l'):BImp k (.rigid l) (.rigid l'):=λβ w H⟨b,c,arr,T,h1,h2,h3⟩=>⟨b,c,arr,T,h1,h2,AImps.sats h h3⟩
theorem JN{k es:Nat}{l l':List Atom}(h:AImps l l'):BImp k (.grow es l) (.grow es l'):=by
 intro β w H hr;have hl:=Ca h;rcases hr with⟨h1,h2⟩|⟨b,c,arr,T,h1,h2,h3,h4,h5⟩
 .refine .inl ⟨h1,?_⟩
  rw[h2]at hl;exact q5w hl.symm
 .exact .inr ⟨b,c,arr,T,h1,h2,h3,by omega,by rw[<-hl];exact AImps.sats h h5⟩
section
inductive HR where
 |bad
 |ok (vc:List Prop) (R:WV) (ks:List Nat) (Lw:List (Nat×Option WB))
 |spl (q:Prop) (R1 R2:WV)
 |okA (vc:List Prop) (R:WV) (k:Nat) (b':WB)
def LwE(Lw:List (Nat×Option WB)):List (Nat×Option Blk):=Lw.map λp=>(p.1,p.2.map WB.exp)
def kinE(kin:List (Nat×WB)):List (Nat×Blk):=kin.map λp=>(p.1,p.2.exp)
def LwOk(Lw:List (Nat×Option WB)):Prop:= ∀k b,(k,some b)∈Lw->b.ok
def wX:WV:= .tup []
theorem Ds:wX.ok:=λx hx=>by simp at hx
def HOk(P:Program)(op:Op)(ty:TypeId)(xs:List Operand)(vs:List WV)(bl:Nat->Option WB):HR->Prop
 | .bad=>True
 | .ok vc R ks Lw=>(∀v∈vs,v.ok)->(∀k b,bl k=some b->b.ok)->(∀p∈vc,p)-> ∀kin:List (Nat×WB),kin.map (·.1)=ks->(∀p∈kin,bl p.1=some p.2)->
   OpOk P op ty (List.zip xs (vs.map WV.exp)) (kinE kin) R.exp (LwE Lw)/\R.ok/\LwOk Lw
 | .spl q R1 R2=>(∀v∈vs,v.ok)->(q->OpOk P op ty (List.zip xs (vs.map WV.exp)) [] R1.exp []/\R1.ok)/\(¬q->OpOk P op ty (List.zip xs (vs.map WV.exp)) [] R2.exp []/\R2.ok)
 | .okA vc R k b'=>(∀v∈vs,v.ok)->(∀k b,bl k=some b->b.ok)->(∀p∈vc,p)-> ∀b,bl k=some b->
   OpOk P op ty (List.zip xs (vs.map WV.exp)) [(k,b.exp)] R.exp []/\OpOk P op ty (List.zip xs (vs.map WV.exp)) [(k,b'.exp)] R.exp []/\R.ok
theorem zD{kin:List (Nat×WB)}{k:Nat}{bl:Nat->Option WB}{b:WB}(h:kin.map (·.1)=[k])(hb: ∀p∈kin,bl p.1=some p.2)(e:bl k=some b):kin=[(k,b)]:=by
 match kin,h with
 |[(q,b')],h=>
  simp at h;subst h
  have:=hb _ q5Q;simp only at this;rw[e]at this;cases this;rfl
theorem qn{kin:List (Nat×WB)}(h:kin.map (·.1)=[]):kin=[]:=by
 match kin,h with
 |[],_=>rfl
theorem qx:LwOk []:=λk b h=>by simp at h
theorem vV{k:Nat}{b:WB}(h:b.ok):LwOk [(k,some b)]:=λq b' hm=>by
 simp only[q5U,q6F,q6E]at hm;obtain⟨_,rfl⟩:=hm;exact h
def EE(g:Bool)(m:List WA):Option WC:=
 bif g then some (.agg m)else match m with
  |[a]=>bif Nat.beq a.wd 1 then some (.one (unst a))else none
  |_=>none
theorem Fb{m:List WA}{x:WC}(h:EE true m=some x):x= .agg m:=by simp[EE]at h;exact h.symm
theorem Fc{m:List WA}{x:WC}(h:EE false m=some x): ∃u,x.exp= .one u/\WAs.exp m=[u]/\(WAs.ok m->x.ok):=by
 unfold EE at h;simp only[cond_false]at h;split at h
 .rename_i a
  cases hw:Nat.beq a.wd 1 with
  |false=>rw[hw]at h;cases h
  |true=>
   rw[hw]at h;simp only[cond_true,q6E]at h;subst h
   have hw:=q68 hw;obtain⟨h1,h2,h3⟩:=Sa a;refine⟨_,rfl,?_,λhk=>⟨h2 (hk a (by simp)),by rw[h3,hw]⟩⟩;rw[WAs.exp_cons,h1,WA.exp_one hw];rfl
 .cases h
theorem M8{g:Bool}{m:List WA}{x:WC}(h:EE g m=some x)(hk:WAs.ok m):x.ok:=by
 cases g with
 |true=>rw[Fb h];exact hk
 |false=>obtain⟨u,_,_,h⟩:=Fc h;exact h hk
def DK(v:Value):Option WA:=
 match v with
 | .int k z=>some (.kn k z)
 |v=>bif v.oneC then some (.vl v)else none
theorem Gy{v:Value}{a:WA}(h:DK v=some a):a.exp=[.val v]/\a.ok/\a.wd=1/\v.oneC=true:=by
 unfold DK at h;split at h
 .simp at h;subst h;exact⟨rfl,trivial,rfl,rfl⟩
 .cases ho:v.oneC with
  |false=>rw[ho]at h;cases h
  |true=>rw[ho]at h;simp at h;subst h;exact⟨rfl,ho,rfl,rfl⟩
def wY:List Value->Option (List WA)
 |[]=>some []
 |v::r=>match DK v with
  |some a=>match wY r with
   |some l=>some (a::l)
   |none=>none
  |none=>none
theorem ww: ∀{vs:List Value}{l:List WA},wY vs=some l->vT vs=some (WAs.exp l)/\WAs.ok l
 |[],l,h=>by simp[wY]at h;subst h;exact⟨rfl,λa ha=>by simp at ha⟩
 |v::r,l,h=>by
  simp only[wY]at h
  cases h1:DK v with
  |none=>rw[h1]at h;cases h
  |some a=>
   rw[h1]at h;simp only at h
   cases h2:wY r with
   |none=>rw[h2]at h;cases h
   |some l'=>
    rw[h2]at h;simp at h;subst h
    obtain⟨e1,o1,w1,c1⟩:=Gy h1;obtain⟨e2,o2⟩:=ww h2;refine⟨?_,WAs.ok_cons.2 ⟨o1,o2⟩⟩;unfold vT at e2⊢
    cases hc:r.all Value.oneC with
    |false=>rw[hc]at e2;cases e2
    |true=>
     rw[hc]at e2;simp at e2
     rw[List.all_cons,c1,hc,WAs.exp_cons,e1,<-e2];rfl
def LJ(v:Value):Option WV:=
 match DK v with
 |some a=>some (.c (.one a))
 |none=>match v with
  | .agg arr=>match wY arr.toList with
   |some l=>some (.c (.agg l))
   |none=>none
  |_=>none
theorem N9{v:Value}{x:WV}(h:LJ v=some x):Ce v=some x.exp/\x.ok:=by
 unfold LJ at h
 cases h1:DK v with
 |some a=>
  rw[h1]at h;simp at h;subst h
  obtain⟨e1,o1,w1,c1⟩:=Gy h1;refine⟨?_,o1,w1⟩;unfold Ce;rw[c1];simp only[cond_true,WV.exp,WC.exp,e1,List.headD_cons]
 |none=>
  rw[h1]at h;simp only at h
  split at h
  .rename_i arr
   cases h2:wY arr.toList with
   |none=>rw[h2]at h;cases h
   |some l=>
    rw[h2]at h;simp at h;subst h
    obtain⟨e2,o2⟩:=ww h2;refine⟨?_,o2⟩;unfold Ce;simp only[Value.oneC,cond_false,e2,q6D];rfl
  .cases h
section
variable {P:Program} {bl:Nat->Option WB} {ty:TypeId}
theorem q1y{x:Operand}{v:WV}:HOk P (.move x) ty [x] [v] bl (.ok [] v [] []):=λhv _ _ kin hk _=>by
 rw[qn hk];exact⟨Xr,hv v (by simp),qx⟩
theorem SW{x:Operand}{v:WV}:HOk P (.assign x) ty [x] [v] bl (.ok [] v [] []):=λhv _ _ kin hk _=>by
 rw[qn hk];exact⟨Rp,hv v (by simp),qx⟩
def PH:WV->WV->WV->HR
 | .c (.one (.vl (.bool b))),x,y=> .ok [] (bif b then x else y) [] []
 | .c (.one (.pp q _)),x,y=> .spl q x y
 | .c (.one (.dt .bool _ b)),x,y=> .spl (b=true) x y
 |_,_,_=> .bad
theorem q1z{c x y:Operand}{a u v:WV}:HOk P (.pick c x y) ty [c,x,y] [a,u,v] bl (PH a u v):=by
 unfold PH;split
 .rename_i b
  intro hv _ _ kin hk _;rw[qn hk];refine⟨?_,by cases b<;>exact hv _ (by simp),qx⟩;have:=Ga (P:=P) (c:=c) (x:=x) (y:=y) (ty:=ty) (b:=b) (u:=u.exp) (v:=v.exp);cases b<;>exact this
 .rename_i q i
  intro hv;have:=Ga (P:=P) (c:=c) (x:=x) (y:=y) (ty:=ty) (b:= @decide q i) (u:=u.exp) (v:=v.exp);refine⟨λhq=>⟨?_,hv _ (by simp)⟩,λhq=>⟨?_,hv _ (by simp)⟩⟩
  .rw[show @decide q i=true from decide_eq_true hq]at this
   show OpOk P _ _ (List.zip [c,x,y] [.c (.one (.val (.bool (@decide q i)))),_,_]) _ _ _;rw[show @decide q i=true from decide_eq_true hq];exact this
  .rw[show @decide q i=false from decide_eq_false hq]at this
   show OpOk P _ _ (List.zip [c,x,y] [.c (.one (.val (.bool (@decide q i)))),_,_]) _ _ _;rw[show @decide q i=false from decide_eq_false hq];exact this
 .rename_i bb b
  intro hv;refine⟨λhq=>⟨?_,hv _ (by simp)⟩,λhq=>⟨?_,hv _ (by simp)⟩⟩
  .subst hq;exact Ga (b:=true)
  .have:b=false:=by simpa using hq
   subst this;exact Ga (b:=false)
 .exact trivial
def ML(P:Program)(t:TypeId)(d:Nat):HR:=
 match P.info? t with
 |some ti=>match ti.zero with
  |some z=>match wY z.cells.toList with
   |some zs=> .ok [] (.c (.one (.loc d 0))) [] [(d,some (.rig zs))]
   |none=> .bad
  |none=> .bad
 |none=> .bad
theorem WI{t:TypeId}{d:Nat}:HOk P (.alloc t) ty [] [] bl (ML P t d):=by
 unfold ML;split
 .rename_i ti hi
  split
  .rename_i z hz
   split
   .rename_i zs hzs
    intro _ _ _ kin hk _;rw[qn hk];obtain⟨h1,h2⟩:=ww hzs;exact⟨Te hi hz h1,⟨trivial,rfl⟩,vV h2⟩
   .exact trivial
  .exact trivial
 .exact trivial
def wBox(d:Nat):WV->HR
 | .c x=>bif (WAs.ids x.cells).all (λk=>!Nat.beq k d)then .ok [] (.c (.one (.loc d 0))) [] [(d,some (.rig x.cells))]else .bad
 | .tup _=> .bad
theorem J8{d:Nat}{l:List WA}(h:(WAs.ids l).all (λk=>!Nat.beq k d)=true):jA d (WAs.exp l)=false:=by
 cases hm:jA d (WAs.exp l)with
 |false=>rfl
 |true=>
  have:=q6N.1 h d (WAs.men_ids hm);simp at this
theorem WC.ok_cells{x:WC}(h:x.ok):WAs.ok x.cells:=by
 cases x with
 |one a=>intro b hb;simp[WC.cells]at hb;subst hb;exact h.1
 |agg l=>exact h
theorem q3X{t:TypeId}{x:Operand}{v:WV}{d:Nat}:HOk P (.box t x) ty [x] [v] bl (wBox d v):=by
 unfold wBox;split
 .rename_i y
  cases hm:(WAs.ids y.cells).all (λk=>!Nat.beq k d)with
  |false=>exact trivial
  |true=>
   simp only[cond_true];intro hv _ _ kin hk _;rw[qn hk];have hy:y.ok:=hv _ q5Q;have:=q2g (P:=P) (t:=t) (ty:=ty) (d:=d) (x:=x) (v:=y.exp) (by rw[WC.exp_cells hy];exact J8 hm);rw[WC.exp_cells hy]at this;exact⟨this,⟨trivial,rfl⟩,vV (WC.ok_cells hy)⟩
 .exact trivial
def retM(g:Bool)(vc:List Prop)(m:List WA)(ks:List Nat):HR:=
 match EE g m with
 |some x=> .ok vc (.c x) ks []
 |none=> .bad
def PF(P:Program)(bl:Nat->Option WB)(t:TypeId):WV->HR
 | .c (.one (.loc k off))=>match bl k with
  |some (.rig l)=>match jl P t with
   |some (g,s)=>match carve l off s with
    |some (_,m,_)=>retM g [] m [k]
    |none=> .bad
   |none=> .bad
  |_=> .bad
 | .c (.one (.el k i fo w))=>match bl k with
  |some (.arr t' b l)=>bif Nat.beq w t'.w then match jl P t with
   |some (g,s)=>match carve [.dt t' b (gt t' l i)] fo s with
    |some (_,m,_)=>retM g [i<l.length] m [k]
    |none=> .bad
   |none=> .bad
   else .bad
  |some (.gro t' b l)=>bif Nat.beq w t'.w then match jl P t with
   |some (g,s)=>match carve [.dt t' b (gt t' l i)] fo s with
    |some (_,m,_)=>retM g [i<l.length] m [k]
    |none=> .bad
   |none=> .bad
   else .bad
  |_=> .bad
 | .c (.one (.ip t' b x fo))=>match jl P t with
   |some (g,s)=>bif Nat.beq s 0 then .bad else match carve [.dt t' b x] fo s with
    |some (_,m,_)=>retM g [] m []
    |none=> .bad
   |none=> .bad
 |_=> .bad
theorem zi(t:Ty)(b:Bd)(x:t.den):WAs.exp [.dt t b x]=qO t x:=by simp[WAs.exp,WA.exp]
theorem DV{α:Type}{l:List α}{off:Nat}{u:α}(h:(l.drop off).take 1=[u]):l[off]?=some u:=by
 have:((l.drop off).take 1)[0]?=some u:=by rw[h];rfl
 rw[q5E (by decide),q5B]at this;simpa using this
theorem GQ{t:Ty}{b:Bd}{l:List t.den}{i fo s:Nat}{a m p:List WA}(hi:i<l.length)(h:carve [.dt t b (gt t l i)] fo s=some (a,m,p)):
  ((je t l).drop (i*t.w+fo)).take s=WAs.exp m/\i*t.w+fo+s<=(je t l).length:=by
 obtain⟨h1,h2⟩:=wg h;rw[zi]at h1 h2;rw[zj]at h2;have hl:(i+1)*t.w<=l.length*t.w:=q6r _ hi;rw[q6y]at hl;refine⟨?_,by rw[zH];omega⟩;rw[<-h1,<-Nk t l i hi,List.drop_take,q5t,q61,q6i (by omega)]
theorem At {g : Bool} {vc : List Prop} {m : List WA} {ks : List Nat} {op : Op} {xs : List Operand} {vs : List WV}
  (hg : ∀ kin : List (Nat × WB), (∀ v ∈ vs, v.ok) -> (∀ k b, bl k = some b -> b.ok) -> (∀ p ∈ vc, p) -> kin.map (·.1) = ks -> (∀ p ∈ kin, bl p.1 = some p.2) ->
   WAs.ok m /\ (g = true -> OpOk P op ty (List.zip xs (vs.map WV.exp)) (kinE kin) (.c (.agg (WAs.exp m))) []) /\ (∀ u, g = false -> WAs.exp m = [u] -> OpOk P op ty (List.zip xs (vs.map WV.exp)) (kinE kin) (.c (.one u)) [])) :
  HOk P op ty xs vs bl (retM g vc m ks) := by
 unfold retM;split
 .rename_i x hx
  intro hv hb hvc kin hk hkb;obtain ⟨ho, h1, h2⟩ := hg kin hv hb hvc hk hkb;refine ⟨?_, M8 hx ho, qx⟩
  cases g with
  | true => rw [Fb hx]; exact h1 rfl
  | false =>
   obtain ⟨u, e1, e2, _⟩ := Fc hx;show OpOk P op ty _ _ (.c x.exp) _;rw [e1]; exact h2 u rfl e2
 .exact trivial
theorem v9{t:Ty}{b:Bd}{x:t.den}(h:Bnd t b x):WAs.ok [.dt t b x]:=λa ha=>by simp at ha;subst ha;exact h
theorem A1{t:TypeId}{l:List Atom}{u:Atom}{off s:Nat}(h:(l.drop off).take s=[u])(hn:off+s<=l.length):s=1:=by
 have:=congrArg List.length h;rw[q5L,q5I,List.length_singleton]at this;omega
theorem q1w{t:TypeId}{x:Operand}{v:WV}:HOk P (.load t x) ty [x] [v] bl (PF P bl t v):=by
 unfold PF;split
 .rename_i k off
  split
  .rename_i l hl
   split
   .rename_i g s hs
    split
    .rename_i a m p hc
     refine At λkin hv hb _ hk hkb=>?_
     rw[zD hk hkb hl];obtain⟨h1,h2⟩:=wg hc;refine⟨((vr hc).2.2.2 (hb k _ hl)).2.1,λhg=>?_,λu hg hu=>?_⟩
     .subst hg;exact GD hs h1 h2
     .subst hg
      rw[hu]at h1;have:=A1 (t:=t) h1 h2;subst this;exact GE hs (DV h1)
    .exact trivial
   .exact trivial
  .exact trivial
 .rename_i k i fo w
  split
  .rename_i t' b l hl
   cases hw:Nat.beq w t'.w with
   |false=>exact trivial
   |true=>
    have hw:=q68 hw;subst hw;simp only[cond_true];split
    .rename_i g s hs
     split
     .rename_i a m p hc
      refine At λkin hv hb hvc hk hkb=>?_
      have hi:i<l.length:=hvc _ q5Q;rw[zD hk hkb hl];obtain⟨h1,h2⟩:=GQ hi hc;refine⟨((vr hc).2.2.2 (v9 (Bnd.gt (hb k _ hl) hi))).2.1,λhg=>?_,λu hg hu=>?_⟩
      .subst hg;exact GD hs h1 h2
      .subst hg
       rw[hu]at h1;have:=A1 (t:=t) h1 h2;subst this;exact GE hs (DV h1)
     .exact trivial
    .exact trivial
  .rename_i t' b l hl
   cases hw:Nat.beq w t'.w with
   |false=>exact trivial
   |true=>
    have hw:=q68 hw;subst hw;simp only[cond_true];split
    .rename_i g s hs
     split
     .rename_i a m p hc
      refine At λkin hv hb hvc hk hkb=>?_
      have hi:i<l.length:=hvc _ q5Q;rw[zD hk hkb hl];obtain⟨h1,h2⟩:=GQ hi hc;refine⟨((vr hc).2.2.2 (v9 (Bnd.gt (hb k _ hl) hi))).2.1,λhg=>?_,λu hg hu=>?_⟩
      .subst hg;exact Hb hs h1 h2
      .subst hg
       rw[hu]at h1;have:=A1 (t:=t) h1 h2;subst this;exact Mh hs (DV h1)
     .exact trivial
    .exact trivial
  .exact trivial
 .rename_i t' b z fo
  split
  .rename_i g s hs
   cases hs0:Nat.beq s 0 with
   |true=>exact trivial
   |false=>
    simp only[cond_false];split
    .rename_i a m p hc
     refine At λkin hv hb hvc hk hkb=>?_
     rw[qn hk];have hz:Bnd t' b z:=(hv _ q5Q).1;obtain⟨h1,h2⟩:=wg hc;rw[zi]at h1 h2;rw[zj]at h2
     have hs1:0<s:=by
      rcases q69 s with h|h
      .rw[h]at hs0;simp at hs0
      .exact h
     unfold qO at h1;rw[<-List.map_drop,<-List.map_take]at h1;refine⟨((vr hc).2.2.2 (v9 hz)).2.1,λhg=>?_,λu hg hu=>?_⟩
     .subst hg;exact Ik hs h1 (by rw[q5I,jD];omega) hs1
     .subst hg
      rw[hu]at h1;show OpOk P _ _ [(x,.c (.one (.ptr ((cellsC t' z).drop fo))))] _ _ _
      match he:(cellsC t' z).drop fo,h1 with
      |[],h1=>simp at h1
      |c::r,h1=>
       have:s=s-1+1:=by omega
       rw[this]at h1;simp only[List.take_succ_cons,q5M,List.cons.injEq]at h1;rw[<-h1.1];exact Il hs
    .exact trivial
  .exact trivial
 .exact trivial
def EO(k i fo s:Nat)(t':Ty)(b:Bd)(l:List t'.den)(v:WC)(mk:List t'.den->WB):HR:=
 bif Nat.beq (WAs.wd v.cells) s then match carve [.dt t' b (gt t' l i)] fo s with
  |some (a,_,p)=>match reify t' (a++(v.cells++p))with
   |some (b',x,[])=>bif b'.le b then .ok [i<l.length] wX [k] [(k,some (mk (l.set i x)))]else .ok [i<l.length,Bnd t' b x] wX [k] [(k,some (mk (l.set i x)))]
   |_=> .bad
  |none=> .bad
 else .bad
def MW(P:Program)(bl:Nat->Option WB)(t:TypeId):WV->WV->HR
 | .c (.one (.loc k off)),.c v=>match bl k with
  |some (.rig l)=>match jl P t with
   |some (_,s)=>bif Nat.beq (WAs.wd v.cells) s then match carve l off s with
    |some (a,_,p)=> .ok [] wX [k] [(k,some (.rig (a++(v.cells++p))))]
    |none=> .bad
    else .bad
   |none=> .bad
  |_=> .bad
 | .c (.one (.el k i fo w)),.c v=>match bl k with
  |some (.arr t' b l)=>bif Nat.beq w t'.w then match jl P t with
   |some (_,s)=>EO k i fo s t' b l v (λl=> .arr t' b l)
   |none=> .bad
   else .bad
  |some (.gro t' b l)=>bif Nat.beq w t'.w then match jl P t with
   |some (_,s)=>EO k i fo s t' b l v (λl=> .gro t' b l)
   |none=> .bad
   else .bad
  |_=> .bad
 |_,_=> .bad
theorem Ib{α:Type}{l:List α}{i:Nat}{x y:α}(h:y∈l.set i x):y∈l\/y=x:=List.mem_or_eq_of_mem_set h
theorem SG{t':Ty}{b:Bd}{l:List t'.den}{i fo s:Nat}{a m p:List WA}{v:WC}{b':Bd}{x:t'.den}(hv:v.ok)(hb: ∀x∈l,Bnd t' b x)(hi:i<l.length)(hw:WAs.wd v.cells=s)
  (hc:carve [.dt t' b (gt t' l i)] fo s=some (a,m,p))(hr:reify t' (a++(v.cells++p))=some (b',x,[])):
  AImps (spl (je t' l) (i*t'.w+fo) v.exp.cells) (je t' (l.set i x))/\Bnd t' b' x/\v.exp.cells.length=s/\i*t'.w+fo+s<=(je t' l).length:=by
 have hve:v.exp.cells=WAs.exp v.cells:=WC.exp_cells hv;have hvl:(WAs.exp v.cells).length=s:=by rw[WAs.exp_len,hw]
 obtain⟨h1,h2⟩:=GQ hi hc;obtain⟨m',e1,i1,o1⟩:=vv hr;have hok:=(vr hc).2.2.2 (v9 (Bnd.gt hb hi));have e1':WAs.exp (a++(v.cells++p))=m':=by rw[e1];simp[WAs.exp]
 have hlen:(WAs.exp (a++(v.cells++p))).length=t'.w:=by rw[e1',Ca i1,zj]
 have hsp:=F1 hc hvl;rw[zi]at hsp;refine⟨?_,(o1 (WAs.ok_app.2 ⟨hok.1,WAs.ok_app.2 ⟨WC.ok_cells hv,hok.2.2⟩⟩)).1,by rw[hve,hvl],h2⟩;rw[<-L4 t' l i x hi,hve];have hel:=Nk t' l i hi
 have hli:i*t'.w+t'.w<=(je t' l).length:=by
  have:(i+1)*t'.w<=l.length*t'.w:=q6r _ hi;rw[zH,<-q6y];exact this
 have hfo:fo+s<=t'.w:=by
  have:=(wg hc).2
  rwa [zi,zj]at this
 have key:spl (je t' l) (i*t'.w+fo) (WAs.exp v.cells)=spl (je t' l) (i*t'.w) (WAs.exp (a++(v.cells++p))):=by
  rw[<-hsp,<-hel];unfold spl;have hl2:(((je t' l).drop (i*t'.w)).take t'.w).length=t'.w:=by rw[q5L,q5I];omega
  rw[q5G,q5G,q5L,q5I,hl2,hvl];rw[show min fo t'.w=fo by omega,show fo+(s+(t'.w-(fo+s)))=t'.w by omega];rw[List.take_add,q5s,q5s,q5s]
  congr 1
  rw[q61,q6i (by omega)]
  congr 2
  rw[List.drop_take,q5t,show i*t'.w+(fo+s)=i*t'.w+fo+s by omega];have:t'.w-(fo+s)+(i*t'.w+fo+s)=i*t'.w+t'.w:=by omega
  have h9:=(List.take_append_drop (t'.w-(fo+s)) ((je t' l).drop (i*t'.w+fo+s))).symm;rw[q5t (i:=t'.w-(fo+s)),show i*t'.w+fo+s+(t'.w-(fo+s))=i*t'.w+t'.w by omega]at h9;exact h9
 rw[key];unfold spl;refine zX vm (zX (by rw[e1'];exact i1) ?_);rw[hlen,zj];exact vm
theorem JZ{k i fo s:Nat}{t':Ty}{b:Bd}{l:List t'.den}{v:WC}{mk:List t'.den->WB}{t:TypeId}{x y:Operand}{g:Bool}(hs:jl P t=some (g,s))(hl:bl k=some (mk l))(hmk: ∀l,(mk l).ok↔ ∀x∈l,Bnd t' b x)
  (hop: ∀(l:List t'.den)(v:Cmp)(off:Nat),v.cells.length=s->off+s<=(je t' l).length-> ∀l',AImps (spl (je t' l) off v.cells) (je t' l')->OpOk P (.store t x y) ty [(x,.c (.one (.loc k off))),(y,.c v)] [(k,(mk l).exp)] E6 [(k,some (mk l').exp)]):
  HOk P (.store t x y) ty [x,y] [.c (.one (.el k i fo t'.w)),.c v] bl (EO k i fo s t' b l v mk):=by
 unfold EO
 cases hw:Nat.beq (WAs.wd v.cells) s with
 |false=>exact trivial
 |true=>
  simp only[cond_true];have hw:=q68 hw;split
  .rename_i a m p hc
   split
   .rename_i b' z hr
    have main:(∀u∈[(WV.c (.one (.el k i fo t'.w))),.c v],u.ok)->(∀k b,bl k=some b->b.ok)->i<l.length->(Bnd t' b' z->Bnd t' b z)-> ∀kin:List (Nat×WB),kin.map (·.1)=[k]->(∀p∈kin,bl p.1=some p.2)->
      OpOk P (.store t x y) ty (List.zip [x,y] ([(WV.c (.one (.el k i fo t'.w))),.c v].map WV.exp)) (kinE kin) wX.exp (LwE [(k,some (mk (l.set i z)))])/\wX.ok/\LwOk [(k,some (mk (l.set i z)))]:=by
     intro hv hb hi hbz kin hk hkb;rw[zD hk hkb hl];have hlb: ∀x∈l,Bnd t' b x:=(hmk l).1 (hb k _ hl);obtain⟨h1,h2,h3,h4⟩:=SG (hv (.c v) (by simp)) hlb hi hw hc hr;refine⟨hop l v.exp _ h3 h4 _ h1,Ds,vV ((hmk _).2 λu hu=>?_)⟩;rcases Ib hu with hu|rfl
     .exact hlb u hu
     .exact hbz h2
    cases hle:b'.le b with
    |true=>
     simp only[cond_true];intro hv hb hvc kin hk hkb;exact main hv hb (hvc _ q5Q) (Bnd.mono hle) kin hk hkb
    |false=>
     simp only[cond_false];intro hv hb hvc kin hk hkb;exact main hv hb (hvc _ q5Q) (λ_=>hvc (Bnd t' b z) (by simp)) kin hk hkb
   .exact trivial
  .exact trivial
theorem DF{k:Nat}{b b':Blk}(h:BImp k b b'):LImp [(k,some b)] [(k,some b')]:=⟨rfl,h,trivial⟩
theorem WW{t:TypeId}{x y:Operand}{p v:WV}:HOk P (.store t x y) ty [x,y] [p,v] bl (MW P bl t p v):=by
 unfold MW;split
 .rename_i k off v
  split
  .rename_i l hl
   split
   .rename_i g s hs
    cases hw:Nat.beq (WAs.wd v.cells) s with
    |false=>exact trivial
    |true=>
     simp only[cond_true];have hw:=q68 hw;split
     .rename_i a m p hc
      intro hv hb hvc kin hk hkb;rw[zD hk hkb hl];have hv':v.ok:=hv (.c v) (by simp);have hvl:(WAs.exp v.cells).length=s:=by rw[WAs.exp_len,hw]
      have:=Hc (P:=P) (ty:=ty) (x:=x) (y:=y) (k:=k) (off:=off) (cs:=WAs.exp l) (v:=v.exp) hs (by rw[WC.exp_cells hv',hvl]) (wg hc).2;rw[WC.exp_cells hv',F1 hc hvl]at this;have hok:=(vr hc).2.2.2 (hb k _ hl);exact⟨this,Ds,vV (WAs.ok_app.2 ⟨hok.1,WAs.ok_app.2 ⟨WC.ok_cells hv',hok.2.2⟩⟩)⟩
     .exact trivial
   .exact trivial
  .exact trivial
 .rename_i k i fo w v
  split
  .rename_i t' b l hl
   cases hw:Nat.beq w t'.w with
   |false=>exact trivial
   |true=>
    have hw:=q68 hw;subst hw;simp only[cond_true];split
    .rename_i g s hs
     exact JZ hs hl (λl=>Iff.rfl) λl v off hvl hn l' hi=>(Hc hs hvl hn).weak (λ_ _ _ h=>h) (DF (zM hi))
    .exact trivial
  .rename_i t' b l hl
   cases hw:Nat.beq w t'.w with
   |false=>exact trivial
   |true=>
    have hw:=q68 hw;subst hw;simp only[cond_true];split
    .rename_i g s hs
     exact JZ hs hl (λl=>Iff.rfl) λl v off hvl hn l' hi=>(Kl hs hvl hn).weak (λ_ _ _ h=>h) (DF (JN hi))
    .exact trivial
  .exact trivial
 .exact trivial
def wNil:WV->HR
 | .c (.one (.loc k off))=> .ok [] (.c (.one (.loc k off))) [] []
 | .c (.one (.el k i fo w))=> .ok [] (.c (.one (.el k i fo w))) [] []
 | .c (.one (.ip t b x fo))=> .ok [] (.c (.one (.ip t b x fo))) [] []
 |_=> .bad
theorem q41{x:Operand}{v:WV}:HOk P (.nilCheck x) ty [x] [v] bl (wNil v):=by
 unfold wNil;split
 .exact λhv _ _ kin hk _=>by rw[qn hk];exact⟨Dz (Rg _ _),hv _ (by simp),qx⟩
 .exact λhv _ _ kin hk _=>by rw[qn hk];exact⟨Dz (Rg _ _),hv _ (by simp),qx⟩
 .exact λhv _ _ kin hk _=>by rw[qn hk];exact⟨Dz (q26 _),hv _ (by simp),qx⟩
 .exact trivial
def C8(P:Program)(s:TypeId)(f:Nat):WV->HR
 | .c (.one (.loc k off))=>match wy P s f with
  |some (fo,_,sz)=>bif Nat.beq sz 0 then .bad else .ok [] (.c (.one (.loc k (off+fo)))) [] []
  |none=> .bad
 | .c (.one (.el k i f0 w))=>match wy P s f with
  |some (fo,_,sz)=>bif Nat.beq sz 0 then .bad else .ok [] (.c (.one (.el k i (f0+fo) w))) [] []
  |none=> .bad
 | .c (.one (.ip t b x f0))=>match wy P s f with
  |some (fo,_,sz)=>bif Nat.beq sz 0 then .bad else .ok [] (.c (.one (.ip t b x (f0+fo)))) [] []
  |none=> .bad
 |_=> .bad
theorem beq0{n:Nat}(h:Nat.beq n 0=false):n≠0:=λe=>by subst e;simp at h
theorem GB{s:TypeId}{f:Nat}{x:Operand}{v:WV}:HOk P (.fieldAddr s x f) ty [x] [v] bl (C8 P s f v):=by
 unfold C8;split
 .rename_i k off
  split
  .rename_i fo ft sz h
   cases hz:Nat.beq sz 0 with
   |true=>exact trivial
   |false=>exact λhv _ _ kin hk _=>by rw[qn hk];exact⟨CL h (beq0 hz),⟨trivial,rfl⟩,qx⟩
  .exact trivial
 .rename_i k i f0 w
  split
  .rename_i fo ft sz h
   cases hz:Nat.beq sz 0 with
   |true=>exact trivial
   |false=>
    exact λhv _ _ kin hk _=>by
     rw[qn hk];refine⟨?_,⟨trivial,rfl⟩,qx⟩;show OpOk P _ _ _ _ (.c (.one (.loc k (i*w+(f0+fo))))) _;rw[<-q62];exact CL h (beq0 hz)
  .exact trivial
 .rename_i t b z f0
  split
  .rename_i fo ft sz h
   cases hz:Nat.beq sz 0 with
   |true=>exact trivial
   |false=>
    exact λhv _ _ kin hk _=>by
     rw[qn hk];refine⟨?_,⟨(hv _ q5Q).1,rfl⟩,qx⟩;show OpOk P _ _ _ _ (.c (.one (.ptr ((cellsC t z).drop (f0+fo))))) _;rw[<-q5t];exact H9 h (beq0 hz)
  .exact trivial
 .exact trivial
def MR(P:Program)(s:TypeId)(f:Nat):WV->HR
 | .c (.agg l)=>match wy P s f with
  |some (fo,ft,sz)=>match jl P ft with
   |some (g,sz')=>bif Nat.beq sz' sz then(match carve l fo sz with|some (_,m,_)=>retM g [] m []|none=> .bad)else .bad
   |none=> .bad
  |none=> .bad
 |_=> .bad
theorem WQ{s:TypeId}{f:Nat}{x:Operand}{v:WV}:HOk P (.field s x f) ty [x] [v] bl (MR P s f v):=by
 unfold MR;split
 .rename_i l
  split
  .rename_i fo ft sz h
   split
   .rename_i g sz' hs
    cases hz:Nat.beq sz' sz with
    |false=>exact trivial
    |true=>
     have hz:=q68 hz;subst hz;simp only[cond_true];split
     .rename_i a m p hc
      refine At λkin hv hb hvc hk hkb=>?_
      rw[qn hk];obtain⟨h1,h2⟩:=wg hc;refine⟨((vr hc).2.2.2 (hv _ q5Q)).2.1,λhg=>?_,λu hg hu=>?_⟩
      .subst hg;exact Mf h hs h1
      .subst hg
       rw[hu]at h1;have:=A1 (t:=ft) h1 h2;subst this;exact Mg h hs (DV h1)
     .exact trivial
   .exact trivial
  .exact trivial
 .exact trivial
end
end
section
section
variable {P:Program} {bl:Nat->Option WB} {ty:TypeId}
theorem AllP.app{a b:List Prop}(h: ∀p∈a++b,p):(∀p∈a,p)/\(∀p∈b,p):=⟨λp hp=>h p (List.mem_append_left _ hp),λp hp=>h p (List.mem_append_right _ hp)⟩
def asIx(h:Option Nat):WA->Option (IntKind×Int×Nat×List Prop)
 | .kn k (.ofNat n)=>match h with|none=>some (k,.ofNat n,n,[])|some _=>none
 | .dt (.nat k) _ (x:Nat)=>match h with|none=>some (k,(x:Int),x,[])|some _=>none
 | .dt (.int k) _ z=>match h with|some j=>some (k,z,j,[z=(j:Int)])|none=>none
 |_=>none
theorem BI{h:Option Nat}{a:WA}{k:IntKind}{z:Int}{j:Nat}{vc:List Prop}(e:asIx h a=some (k,z,j,vc)):a.exp=[.val (.int k z)]/\((∀p∈vc,p)->z=(j:Int)):=by
 unfold asIx at e;split at e
 .split at e
  .simp at e;obtain⟨rfl,rfl,rfl,rfl⟩:=e;exact⟨rfl,λ_=>rfl⟩
  .cases e
 .split at e
  .simp only[q6E,q6F]at e;obtain⟨rfl,rfl,rfl,rfl⟩:=e;exact⟨rfl,λ_=>rfl⟩
  .cases e
 .split at e
  .simp only[q6E,q6F]at e;obtain⟨rfl,rfl,rfl,rfl⟩:=e;exact⟨rfl,λh=>h _ q5Q⟩
  .cases e
 .cases e
def offs(lo:Option Nat)(j:Nat):Nat:=match lo with|none=>j|some l=>l+j
theorem Dg(lo:Option Nat)(j:Nat):offs lo j=lo.getD 0+j:=by cases lo<;>simp[offs]
def EN(P:Program)(t:TypeId)(h:Option Nat):WV->WV->HR
 | .c (.one (.loc k off)),.c (.one (.kn _ (.ofNat n)))=>match P.underlying t with
  |some (.array m e)=>match P.info? e with
   |some ie=>bif Nat.blt n m then .ok [] (.c (.one (.loc k (off+n*ie.size)))) [] []else .bad
   |none=> .bad
  |_=> .bad
 | .c (.one (.el k i fo w)),.c (.one (.kn _ (.ofNat n)))=>match P.underlying t with
  |some (.array m e)=>match P.info? e with
   |some ie=>bif Nat.blt n m then .ok [] (.c (.one (.el k i (fo+n*ie.size) w))) [] []else .bad
   |none=> .bad
  |_=> .bad
 | .c (.one (.ip t' b x fo)),.c (.one (.kn _ (.ofNat n)))=>match P.underlying t with
  |some (.array m e)=>match P.info? e with
   |some ie=>bif Nat.blt n m then .ok [] (.c (.one (.ip t' b x (fo+n*ie.size)))) [] []else .bad
   |none=> .bad
  |_=> .bad
 | .c (.one (.ls k lo n cap w nb)),.c (.one a)=>match asIx h a with
  |some (kk,z,j,vc)=>match jH P t with
   |some es=>bif Nat.beq es w then .ok (vc++[j<n]) (.c (.one (.el k (offs lo j) 0 w))) [] []else .bad
   |none=> .bad
  |none=> .bad
 | .c (.one (.gs k n w nb)),.c (.one a)=>match asIx h a with
  |some (kk,z,j,vc)=>match jH P t with
   |some es=>bif Nat.beq es w then .ok (vc++[j<n]) (.c (.one (.el k j 0 w))) [] []else .bad
   |none=> .bad
  |none=> .bad
 | .c (.one (.so k lo n w nb)),.c (.one a)=>match asIx h a with
  |some (kk,z,j,vc)=>match jH P t with
   |some es=>bif Nat.beq es w then .ok (vc++[j<n]) (.c (.one (.el k (lo+j) 0 w))) [] []else .bad
   |none=> .bad
  |none=> .bad
 | .c (.one (.dt (.sl t') b (l:List t'.den))),.c (.one a)=>match asIx h a with
  |some (kk,z,j,vc)=>match jH P t with
   |some es=>bif Nat.beq es t'.w&&Nat.blt 0 t'.w then .ok (vc++[j<l.length]) (.c (.one (.ip t' b.e (gt t' l j) 0))) [] []else .bad
   |none=> .bad
  |none=> .bad
 | .c (.one (.dt .mag b (x:Nat))),.c (.one a)=>match asIx h a with
  |some (kk,z,j,vc)=>match jH P t with
   |some es=>bif Nat.beq es 1 then .ok (vc++[j<(limbs x).length]) (.c (.one (.ip (.nat .u32) (.n 4294967295) (gt (.nat .u32) (limbs x) j) 0))) [] []else .bad
   |none=> .bad
  |none=> .bad
 |_,_=> .bad
theorem jq{a:WA}{k:IntKind}{z:Int}(h:a.exp=[.val (.int k z)]):(WV.c (.one a)).exp=qo k z:=by
 simp only[WV.exp,WC.exp,h,List.headD_cons]
theorem S2{t':Ty}{l:List t'.den}{j:Nat}{i:Int}(hi:i=(j:Int))(hj:j<l.length)(h0:0<t'.w):Kt (flP (jb t' l) l.length) t'.w i (cellsC t' (gt t' l j)):=
 WF hi hj (v4 _ _) (by rw[jD];exact DD t' l j hj) h0
theorem Nd{t:TypeId}{h:Option Nat}{x y:Operand}{p v:WV}:HOk P (.indexAddr t x y) ty [x,y] [p,v] bl (EN P t h p v):=by
 unfold EN;split
 .rename_i k off kk n
  split
  .rename_i m e hu
   split
   .rename_i ie he
    cases hb:Nat.blt n m with
    |false=>exact trivial
    |true=>
     intro hv _ _ kin hk _;rw[qn hk];have hlt:n<m:=by simpa using hb
     exact⟨AN (i:= .ofNat n) hu he (q5q _) (Int.ofNat_lt.2 hlt),⟨trivial,rfl⟩,qx⟩
   .exact trivial
  .exact trivial
 .rename_i k i fo w kk n
  split
  .rename_i m e hu
   split
   .rename_i ie he
    cases hb:Nat.blt n m with
    |false=>exact trivial
    |true=>
     intro hv _ _ kin hk _;rw[qn hk];have hlt:n<m:=by simpa using hb
     refine⟨?_,⟨trivial,rfl⟩,qx⟩;show OpOk P _ _ _ _ (.c (.one (.loc k (i*w+(fo+n*ie.size))))) _;rw[<-q62];exact AN (i:= .ofNat n) hu he (q5q _) (Int.ofNat_lt.2 hlt)
   .exact trivial
  .exact trivial
 .rename_i t' b z fo kk n
  split
  .rename_i m e hu
   split
   .rename_i ie he
    cases hb:Nat.blt n m with
    |false=>exact trivial
    |true=>
     intro hv _ _ kin hk _;rw[qn hk];have hlt:n<m:=by simpa using hb
     refine⟨?_,⟨(hv _ q5Q).1,rfl⟩,qx⟩;show OpOk P _ _ _ _ (.c (.one (.ptr ((cellsC t' z).drop (fo+n*ie.size))))) _;rw[<-q5t];exact Gx (i:= .ofNat n) hu he (q5q _) (Int.ofNat_lt.2 hlt)
   .exact trivial
  .exact trivial
 .rename_i k lo n cap w nb a
  split
  .rename_i kk z j vc ha
   split
   .rename_i es hes
    cases hb:Nat.beq es w with
    |false=>exact trivial
    |true=>
     have:=q68 hb;subst this
     intro hv _ hvc kin hk _;rw[qn hk];obtain⟨h1,h2⟩:=BI ha;obtain⟨hvc1,hvc2⟩:=AllP.app hvc;refine⟨?_,⟨trivial,rfl⟩,qx⟩;show OpOk P _ _ [(x,_),(y,(WV.c (.one a)).exp)] _ _ _;rw[jq h1];exact q1n hes (h2 hvc1) (hvc2 _ q5Q) (by rw[Dg,q63];rfl)
   .exact trivial
  .exact trivial
 .rename_i k n w nb a
  split
  .rename_i kk z j vc ha
   split
   .rename_i es hes
    cases hb:Nat.beq es w with
    |false=>exact trivial
    |true=>
     have:=q68 hb;subst this
     intro hv _ hvc kin hk _;rw[qn hk];obtain⟨h1,h2⟩:=BI ha;obtain⟨hvc1,hvc2⟩:=AllP.app hvc;refine⟨?_,⟨trivial,rfl⟩,qx⟩;show OpOk P _ _ [(x,_),(y,(WV.c (.one a)).exp)] _ _ _;rw[jq h1];exact q1m hes (h2 hvc1) (hvc2 _ q5Q) rfl
   .exact trivial
  .exact trivial
 .rename_i k lo n w nb a
  split
  .rename_i kk z j vc ha
   split
   .rename_i es hes
    cases hb:Nat.beq es w with
    |false=>exact trivial
    |true=>
     have:=q68 hb;subst this
     intro hv _ hvc kin hk _;rw[qn hk];obtain⟨h1,h2⟩:=BI ha;obtain⟨hvc1,hvc2⟩:=AllP.app hvc;refine⟨?_,⟨trivial,rfl⟩,qx⟩;show OpOk P _ _ [(x,_),(y,(WV.c (.one a)).exp)] _ _ _;rw[jq h1];exact q1o hes (h2 hvc1) (hvc2 _ q5Q) (by rw[q63];rfl)
   .exact trivial
  .exact trivial
 .rename_i t' b l a
  split
  .rename_i kk z j vc ha
   split
   .rename_i es hes
    cases hb:Nat.beq es t'.w&&Nat.blt 0 t'.w with
    |false=>exact trivial
    |true=>
     simp only[q5m]at hb;have:=q68 hb.1;subst this
     have h0:0<t'.w:=by simpa using hb.2
     intro hv _ hvc kin hk _;rw[qn hk];obtain⟨h1,h2⟩:=BI ha;obtain⟨hvc1,hvc2⟩:=AllP.app hvc;have hj:j<l.length:=hvc2 _ q5Q;have hB:Bnd (.sl t') b l:=(hv _ q5Q).1;refine⟨?_,⟨Bnd.gt (Bnd.sl hB).2 hj,rfl⟩,qx⟩;show OpOk P _ _ [(x,_),(y,(WV.c (.one a)).exp)] _ (.c (.one (.ptr ((cellsC t' (gt t' l j)).drop 0)))) _;rw[jq h1,q5v];exact gIdx hes (S2 (h2 hvc1) hj h0)
   .exact trivial
  .exact trivial
 .rename_i b l a
  split
  .rename_i kk z j vc ha
   split
   .rename_i es hes
    cases hb:Nat.beq es 1 with
    |false=>exact trivial
    |true=>
     have:=q68 hb;subst this
     intro hv _ hvc kin hk _;rw[qn hk];obtain⟨h1,h2⟩:=BI ha;obtain⟨hvc1,hvc2⟩:=AllP.app hvc;have hj:j<(limbs l).length:=hvc2 _ q5Q;have hB:Bnd .mag b l:=(hv _ q5Q).1;refine⟨?_,⟨Bnd.gt (t:= .nat .u32) (Bnd.sl (Bnd.limbs (Bnd.mag hB))).2 hj,rfl⟩,qx⟩;show OpOk P _ _ [(x,(.c (.one (.abs (natP l))))),(y,(WV.c (.one a)).exp)] _ (.c (.one (.ptr ((cellsC (.nat .u32) (gt (.nat .u32) (limbs l) j)).drop 0)))) _;rw[jq h1,q5v,Fd];exact gIdx hes (S2 (t':= .nat .u32) (h2 hvc1) hj (by decide))
   .exact trivial
  .exact trivial
 .exact trivial
theorem Fe{t e ty:TypeId}{x y:Operand}{l:List Atom}{m s n:Nat}{g:Bool}{kk:IntKind}{R:AV}(hu:P.underlying t=some (.array m e))(hs:jl P e=some (g,s))(hn:n<m)
  (h1:g=true->R= .c (.agg ((l.drop (n*s)).take s)))(h2:g=false-> ∃u,R= .c (.one u)/\l[n*s]?=some u):
  OpOk P (.index t x y) ty [(x,.c (.agg l)),(y,qo kk (.ofNat n))] [] R []:=
 qP λa w H β hins _ _=>by
  obtain⟨arr,hx,hsat⟩:=hins _ q5Q;have hy:=(hins (y,qo kk (.ofNat n)) (by simp)).1;simp only at hx hy;have hsz:(sizeOf e).run P w= .ok s w:=(wD hs w).2;have hlt:(0:Int)<=Int.ofNat n/\Int.ofNat n<(m:Int):=⟨q5q _,Int.ofNat_lt.2 hn⟩
  have hrun: ∀v,(part e arr (n*s)).run P w= .ok v w-> ∀dst pos after guard,(execOp a.eval ⟨dst,.index t x y,ty,pos,after,guard⟩).run P w= .ok (.value v) w:=by
   intro v hv _ _ _ _;simp only[execOp,hx,hy,Instr.index,asIntOf,q6H,q6I,q6G,qG hu,if_pos hlt,hsz,show(Int.ofNat n).toNat=n from rfl,hv]
  cases g with
  |true=>
   rw[h1 rfl];refine⟨_,⟨_,rfl,?_⟩,hrun _ (Fn hs w)⟩;have:=(hsat.drop (n*s)).take s;rw[Array.toList_extract];simpa using this
  |false=>
   obtain⟨u,hR,hu'⟩:=h2 rfl;rw[hR];obtain⟨v,hv,hs'⟩:=hsat.get (n*s) hu';exact⟨v,hs',hrun _ (Fo hs (by simpa using hv) w)⟩
def MS(P:Program)(t:TypeId):WV->WV->HR
 | .c (.agg l),.c (.one (.kn _ (.ofNat n)))=>match P.underlying t with
  |some (.array m e)=>match jl P e with
   |some (g,s)=>bif Nat.blt n m then(match carve l (n*s) s with|some (_,q,_)=>retM g [] q []|none=> .bad)else .bad
   |none=> .bad
  |_=> .bad
 |_,_=> .bad
theorem WR{t:TypeId}{x y:Operand}{p v:WV}:HOk P (.index t x y) ty [x,y] [p,v] bl (MS P t p v):=by
 unfold MS;split
 .rename_i l kk n
  split
  .rename_i m e hu
   split
   .rename_i g s hs
    cases hb:Nat.blt n m with
    |false=>exact trivial
    |true=>
     simp only[cond_true];have hlt:n<m:=by simpa using hb
     split
     .rename_i a q p hc
      refine At λkin hv hb hvc hk hkb=>?_
      rw[qn hk];obtain⟨h1,h2⟩:=wg hc;refine⟨((vr hc).2.2.2 (hv _ q5Q)).2.1,λhg=>?_,λu hg hu'=>?_⟩
      .subst hg
       exact Fe hu hs hlt (λ_=>by rw[h1]) (λh=>by cases h)
      .subst hg
       rw[hu']at h1;have:=A1 (t:=e) h1 h2;subst this;exact Fe hu hs hlt (λh=>by cases h) (λ_=>⟨u,rfl,DV h1⟩)
     .exact trivial
   .exact trivial
  .exact trivial
 .exact trivial
def Hn(i:Nat):WV->HR
 | .tup l=>match l[i]? with
  |some x=> .ok [] (.c x) [] []
  |none=> .bad
 |_=> .bad
theorem QK{i:Nat}{x:Operand}{v:WV}:HOk P (.extract x i) ty [x] [v] bl (Hn i v):=by
 unfold Hn;split
 .rename_i l
  split
  .rename_i z hz
   intro hv _ _ kin hk _;rw[qn hk];refine⟨Pi (by rw[List.getElem?_map,hz];rfl),hv (.tup l) (by simp) z (q5S hz),qx⟩
  .exact trivial
 .exact trivial
def kmax:IntKind->Nat
 | .i8=>127| .i16=>32767| .i32=>2147483647| .i64=>9223372036854775807
 | .u8=>255| .u16=>65535| .u32=>4294967295| .u64=>18446744073709551615
theorem Bx{k:IntKind}{x:Nat}(h:x<=kmax k):k.wrap (x:Int)=(x:Int):=by
 cases k<;>simp[kmax,IntKind.wrap,IntKind.bits,IntKind.signed]at h⊢ <;>omega
theorem By{k:IntKind}{z:Int}(hs:k.signed=true)(h:z.natAbs<=kmax k):k.wrap z=z:=by
 cases k<;>simp[kmax,IntKind.wrap,IntKind.bits,IntKind.signed]at h hs⊢ <;>omega
def asN:WA->Option (IntKind×Nat×Nat)
 | .dt (.nat k) b (x:Nat)=>some (k,b.nb,x)
 | .kn k (.ofNat n)=>some (k,n,n)
 |_=>none
def asZ:WA->Option (IntKind×Nat×Int)
 | .dt (.nat k) b (x:Nat)=>some (k,b.nb,(x:Int))
 | .dt (.int k) b z=>some (k,b.nb,z)
 | .kn k z=>some (k,z.natAbs,z)
 |_=>none
theorem v6{a:WA}{k:IntKind}{b n:Nat}(h:asN a=some (k,b,n)):a.exp=[.val (.int k (n:Int))]/\(a.ok->n<=b):=by
 unfold asN at h;split at h
 .simp only[q6E,q6F]at h;obtain⟨rfl,rfl,rfl⟩:=h;exact⟨rfl,λh=>Bnd.nat h⟩
 .simp only[q6E,q6F]at h;obtain⟨rfl,rfl,rfl⟩:=h;exact⟨rfl,λ_=>q6d _⟩
 .cases h
theorem vw{a:WA}{k:IntKind}{b:Nat}{z:Int}(h:asZ a=some (k,b,z)):a.exp=[.val (.int k z)]/\(a.ok->z.natAbs<=b):=by
 unfold asZ at h;split at h
 .simp only[q6E,q6F]at h;obtain⟨rfl,rfl,rfl⟩:=h;exact⟨rfl,λh=>by have:=Bnd.nat h;simpa using this⟩
 .simp only[q6E,q6F]at h;obtain⟨rfl,rfl,rfl⟩:=h;exact⟨rfl,λh=>Bnd.int h⟩
 .simp only[q6E,q6F]at h;obtain⟨rfl,rfl,rfl⟩:=h;exact⟨rfl,λ_=>q6d _⟩
 .cases h
def litZ:WA->Option (IntKind×Int)
 | .kn k z=>some (k,z)
 |_=>none
theorem Dd{a:WA}{k:IntKind}{z:Int}(h:litZ a=some (k,z)):a.exp=[.val (.int k z)]:=by
 unfold litZ at h;split at h
 .simp only[q6E,q6F]at h;obtain⟨rfl,rfl⟩:=h;rfl
 .cases h
def vN(k:IntKind)(b n:Nat):WV:= .c (.one (.dt (.nat k) (.n b) n))
def vZ(k:IntKind)(b:Nat)(z:Int):WV:= .c (.one (.dt (.int k) (.n b) z))
def vP(q:Prop)(i:Decidable q):WV:= .c (.one (.pp q i))
theorem Sd(q:Prop)(i:Decidable q):(vP q i).exp=zx (@decide q i):=rfl
def qU(op:BinOp)(k:IntKind)(a b e:Int):Prop:=
 match op with
 | .add=>k.wrap (a+b)=e
 | .sub=>k.wrap (a-b)=e
 | .mul=>k.wrap (a*b)=e
 | .quo=>b≠0/\k.wrap (a.tdiv b)=e
 | .rem=>b≠0/\a.tmod b=e
 | .shl=>0<=b/\k.wrap (a*2^(min b.toNat k.bits))=e
 | .shr=>0<=b/\a.fdiv (2^(min b.toNat k.bits))=e
 | .and=>k.wrap ((BitVec.ofInt k.bits a&&&BitVec.ofInt k.bits b).toNat)=e
 | .or=>k.wrap ((BitVec.ofInt k.bits a|||BitVec.ofInt k.bits b).toNat)=e
 |_=>False
def zC:BinOp->Bool
 | .shl| .shr=>true
 |_=>false
theorem Bg{op:BinOp}{t ty yt:TypeId}{x y:Operand}{k k':IntKind}{a b e:Int}(h:qU op k a b e)(hk:(kbeq k k'||zC op)=true):
  OpOk P (.binOp op t x y yt) ty [(x,qo k a),(y,qo k' b)] [] (qo k e) []:=by
 have hk':zC op=false->k=k':=λhs=>by rw[hs,Bool.or_false]at hk;exact vG hk
 cases op<;>first|exact h.elim|skip
 case add=>cases hk' rfl;exact q2e h
 case sub=>cases hk' rfl;exact Rv h
 case mul=>cases hk' rfl;exact q2o h
 case quo=>cases hk' rfl;exact q2r h.1 h.2
 case rem=>cases hk' rfl;exact q2s h.1 h.2
 case and=>cases hk' rfl;exact q2f h
 case or=>cases hk' rfl;exact q4K h
 case shl=>exact q2t h.1 h.2
 case shr=>exact q2u h.1 h.2
def Pa(op:BinOp)(k:IntKind)(a b:Int):Option Int:=
 match op with
 | .add=>some (k.wrap (a+b))
 | .sub=>some (k.wrap (a-b))
 | .mul=>some (k.wrap (a*b))
 | .quo=>match b with| .ofNat (n+1)=>some (k.wrap (a.tdiv (.ofNat (n+1))))|_=>none
 | .rem=>match b with| .ofNat (n+1)=>some (a.tmod (.ofNat (n+1)))|_=>none
 | .shl=>match b with| .ofNat n=>some (k.wrap (a*2^(min n k.bits)))|_=>none
 | .shr=>match b with| .ofNat n=>some (a.fdiv (2^(min n k.bits)))|_=>none
 |_=>none
theorem Pb{op:BinOp}{k:IntKind}{a b e:Int}(h:Pa op k a b=some e):qU op k a b e:=by
 unfold Pa at h;split at h<;>try(simp only[q6E]at h;exact h)
 .split at h
  .simp only[q6E]at h;exact⟨(λe=>by cases e),h⟩
  .cases h
 .split at h
  .simp only[q6E]at h;exact⟨(λe=>by cases e),h⟩
  .cases h
 .split at h
  .simp only[q6E]at h;exact⟨q5q _,h⟩
  .cases h
 .split at h
  .simp only[q6E]at h;exact⟨q5q _,h⟩
  .cases h
 .cases h
def KT(lit:Bool)(n:Nat):List Prop:=bif lit&&Nat.blt 0 n then[]else[0<n]
theorem Is{lit:Bool}{n:Nat}(h: ∀p∈KT lit n,p):0<n:=by
 unfold KT at h
 cases hb:lit&&Nat.blt 0 n with
 |true=>simp only[q5m]at hb;simpa using hb.2
 |false=>rw[hb]at h;exact h _ q5Q
def D7:WA->Bool
 | .kn _ _=>true
 |_=>false
def Pc(op:BinOp)(k:IntKind)(b1 n1 b2 n2:Nat)(lit:Bool):Option (Nat×Nat×List Prop):=
 match op with
 | .add=>bif Nat.ble (b1+b2) (kmax k)then some (b1+b2,n1+n2,[])else none
 | .mul=>bif Nat.ble (b1*b2) (kmax k)then some (b1*b2,n1*n2,[])else none
 | .quo=>bif Nat.ble b1 (kmax k)then some (b1,n1/n2,KT lit n2)else none
 | .rem=>bif Nat.ble b1 (kmax k)then some (bif lit then n2-1 else b2,n1%n2,KT lit n2)else none
 | .shl=>bif lit&&Nat.ble n2 (k.bits)&&Nat.ble (b1*2^n2) (kmax k)then some (b1*2^n2,n1*2^n2,[])else none
 | .shr=>bif lit&&Nat.ble n2 (k.bits)then some (b1/2^n2,n1/2^n2,[])else none
 |_=>none
theorem Pd{op:BinOp}{k:IntKind}{b1 n1 b2 n2 b n:Nat}{lit:Bool}{vc:List Prop}(h:Pc op k b1 n1 b2 n2 lit=some (b,n,vc))(h1:n1<=b1)(h2:n2<=b2)(hvc: ∀p∈vc,p):
  qU op k (n1:Int) (n2:Int) (n:Int)/\n<=b:=by
 unfold Pc at h;split at h
 .cases hb:Nat.ble (b1+b2) (kmax k)with
  |false=>rw[hb]at h;cases h
  |true=>
   rw[hb]at h;simp only[cond_true,q6E,q6F]at h;obtain⟨rfl,rfl,rfl⟩:=h
   have:=q6a hb;refine⟨?_,by omega⟩;show k.wrap ((n1:Int)+(n2:Int))=_;rw[<-Int.natCast_add];exact Bx (by omega)
 .cases hb:Nat.ble (b1*b2) (kmax k)with
  |false=>rw[hb]at h;cases h
  |true=>
   rw[hb]at h;simp only[cond_true,q6E,q6F]at h;obtain⟨rfl,rfl,rfl⟩:=h
   have h3:=q6a hb;have h4:=q6p h1 h2;refine⟨?_,h4⟩;show k.wrap ((n1:Int)*(n2:Int))=_;rw[<-q5p];exact Bx (by omega)
 .cases hb:Nat.ble b1 (kmax k)with
  |false=>rw[hb]at h;cases h
  |true=>
   rw[hb]at h;simp only[cond_true,q6E,q6F]at h;obtain⟨rfl,rfl,rfl⟩:=h
   have h3:=q6a hb;have h4:=Is hvc;have h5:=q65 n1 n2;refine⟨⟨by omega,?_⟩,by omega⟩;rw[show(n1:Int).tdiv (n2:Int)=((n1/n2:Nat):Int)from(Int.ofNat_tdiv n1 n2).symm];exact Bx (by omega)
 .cases hb:Nat.ble b1 (kmax k)with
  |false=>rw[hb]at h;cases h
  |true=>
   rw[hb]at h;simp only[cond_true,q6E,q6F]at h;obtain⟨rfl,rfl,rfl⟩:=h
   have h4:=Is hvc;have h5:=q6k n1 h4;refine⟨⟨by omega,remN n1 n2⟩,?_⟩;cases lit
   .show n1%n2<=b2;omega
   .show n1%n2<=n2-1;omega
 .cases hb:lit&&Nat.ble n2 (k.bits)&&Nat.ble (b1*2^n2) (kmax k)with
  |false=>rw[hb]at h;cases h
  |true=>
   rw[hb]at h;simp only[cond_true,q6E,q6F]at h;obtain⟨rfl,rfl,rfl⟩:=h
   simp only[q5m]at hb;have h3:=q6a hb.1.2;have h4:=q6a hb.2;have h5:n1*2^n2<=b1*2^n2:=q6r _ h1;refine⟨⟨by omega,?_⟩,h5⟩;rw[show((n2:Int).toNat)=n2 from q5r _,q6i h3];have:((n1:Int)*2^n2)=((n1*2^n2:Nat):Int):=by rw[q5p,Int.natCast_pow];rfl
   rw[this];exact Bx (by omega)
 .cases hb:lit&&Nat.ble n2 (k.bits)with
  |false=>rw[hb]at h;cases h
  |true=>
   rw[hb]at h;simp only[cond_true,q6E,q6F]at h;obtain⟨rfl,rfl,rfl⟩:=h
   simp only[q5m]at hb;exact⟨⟨by omega,shrN n1 n2 (q6a hb.2)⟩,Nat.div_le_div_right h1⟩
 .cases h
def Kz(op:BinOp)(k:IntKind)(b1:Nat)(z1:Int)(b2:Nat)(z2:Int)(lit:Bool):Option (Nat×Int×List Prop):=
 match op with
 | .add=>bif k.signed&&Nat.ble (b1+b2) (kmax k)then some (b1+b2,z1+z2,[])else none
 | .sub=>bif k.signed&&Nat.ble (b1+b2) (kmax k)then some (b1+b2,z1-z2,[])else none
 | .mul=>bif k.signed&&Nat.ble (b1*b2) (kmax k)then some (b1*b2,z1*z2,[])else none
 | .quo=>bif k.signed&&Nat.ble b1 (kmax k)then some (b1,z1.tdiv z2,[z2≠0])else none
 | .rem=>bif k.signed then some (b2,z1.tmod z2,[z2≠0])else none
 |_=>none
theorem HX{op:BinOp}{k:IntKind}{b1 b2 b:Nat}{z1 z2 z:Int}{lit:Bool}{vc:List Prop}(h:Kz op k b1 z1 b2 z2 lit=some (b,z,vc))(h1:z1.natAbs<=b1)(h2:z2.natAbs<=b2)(hvc: ∀p∈vc,p):
  qU op k z1 z2 z/\z.natAbs<=b:=by
 unfold Kz at h;split at h
 .cases hb:k.signed&&Nat.ble (b1+b2) (kmax k)with
  |false=>rw[hb]at h;cases h
  |true=>
   rw[hb]at h;simp only[cond_true,q6E,q6F]at h;obtain⟨rfl,rfl,rfl⟩:=h
   simp only[q5m]at hb;have h3:=q6a hb.2;have h4:(z1+z2).natAbs<=b1+b2:=by omega
   exact⟨By hb.1 (by omega),h4⟩
 .cases hb:k.signed&&Nat.ble (b1+b2) (kmax k)with
  |false=>rw[hb]at h;cases h
  |true=>
   rw[hb]at h;simp only[cond_true,q6E,q6F]at h;obtain⟨rfl,rfl,rfl⟩:=h
   simp only[q5m]at hb;have h3:=q6a hb.2;have h4:(z1-z2).natAbs<=b1+b2:=by omega
   exact⟨By hb.1 (by omega),h4⟩
 .cases hb:k.signed&&Nat.ble (b1*b2) (kmax k)with
  |false=>rw[hb]at h;cases h
  |true=>
   rw[hb]at h;simp only[cond_true,q6E,q6F]at h;obtain⟨rfl,rfl,rfl⟩:=h
   simp only[q5m]at hb;have h3:=q6a hb.2;have h4:(z1*z2).natAbs<=b1*b2:=by rw[Int.natAbs_mul];exact q6p h1 h2
   exact⟨By hb.1 (by omega),h4⟩
 .cases hb:k.signed&&Nat.ble b1 (kmax k)with
  |false=>rw[hb]at h;cases h
  |true=>
   rw[hb]at h;simp only[cond_true,q6E,q6F]at h;obtain⟨rfl,rfl,rfl⟩:=h
   simp only[q5m]at hb;have h3:=q6a hb.2;have h4:(z1.tdiv z2).natAbs<=b1:=by rw[Int.natAbs_tdiv];exact q6e (q65 _ _) h1
   exact⟨⟨hvc _ q5Q,By hb.1 (by omega)⟩,h4⟩
 .cases hb:k.signed with
  |false=>rw[hb]at h;cases h
  |true=>
   rw[hb]at h;simp only[cond_true,q6E,q6F]at h;obtain⟨rfl,rfl,rfl⟩:=h
   have hz:z2≠0:=hvc _ q5Q;refine⟨⟨hz,rfl⟩,?_⟩;rw[Int.natAbs_tmod];exact q6e (q6b (q6k _ (Int.natAbs_pos.2 hz))) h2
 .cases h
def A3:BinOp->Bool
 | .eql| .neq| .lss| .leq| .gtr| .geq=>true
 |_=>false
def Cz(op:BinOp)(a b:Int):Bool:=
 match op with
 | .eql=>decide (a=b)
 | .neq=>!decide (a=b)
 | .lss=>decide (a<b)
 | .leq=>decide (a<=b)
 | .gtr=>decide (b<a)
 | .geq=>decide (b<=a)
 |_=>false
theorem F2{op:BinOp}{t ty yt:TypeId}{x y:Operand}{k:IntKind}{a b:Int}(h:A3 op=true):OpOk P (.binOp op t x y yt) ty [(x,qo k a),(y,qo k b)] [] (zx (Cz op a b)) []:=by
 cases op<;>simp only[A3,q5n]at h
 case eql=>exact q2i (by simp[Cz,BEq.beq])
 case neq=>exact q2q (by simp[Cz,bne,BEq.beq])
 case lss=>exact q2m rfl
 case leq=>exact q2l rfl
 case gtr=>exact q2k rfl
 case geq=>exact q2j rfl
def KX(op:BinOp)(a b:Nat):WV:=
 match op with
 | .eql=>vP (a=b) inferInstance
 | .neq=>vP (a≠b) inferInstance
 | .lss=>vP (a<b) inferInstance
 | .leq=>vP (a<=b) inferInstance
 | .gtr=>vP (b<a) inferInstance
 |_=>vP (b<=a) inferInstance
def KY(op:BinOp)(a b:Int):WV:=
 match op with
 | .eql=>vP (a=b) inferInstance
 | .neq=>vP (a≠b) inferInstance
 | .lss=>vP (a<b) inferInstance
 | .leq=>vP (a<=b) inferInstance
 | .gtr=>vP (b<a) inferInstance
 |_=>vP (b<=a) inferInstance
theorem Wm{op:BinOp}{t ty yt:TypeId}{x y:Operand}{k:IntKind}{a b:Int}(h:A3 op=true):OpOk P (.binOp op t x y yt) ty [(x,qo k a),(y,qo k b)] [] (KY op a b).exp []/\(KY op a b).ok:=by
 have hc:=F2 (P:=P) (t:=t) (ty:=ty) (yt:=yt) (x:=x) (y:=y) (k:=k) (a:=a) (b:=b) h;cases op<;>simp only[A3,q5n]at h<;>refine⟨?_,trivial,rfl⟩<;>simp only[KY,Sd]<;>simp only[Cz]at hc
 all_goals first|exact hc|(rw[show decide (a≠b)=!decide (a=b) by simp];exact hc)
theorem TV{op:BinOp}{t ty yt:TypeId}{x y:Operand}{k:IntKind}{a b:Nat}(h:A3 op=true):OpOk P (.binOp op t x y yt) ty [(x,qo k (a:Int)),(y,qo k (b:Int))] [] (KX op a b).exp []/\(KX op a b).ok:=by
 have hc:=F2 (P:=P) (t:=t) (ty:=ty) (yt:=yt) (x:=x) (y:=y) (k:=k) (a:=(a:Int)) (b:=(b:Int)) h;cases op<;>simp only[A3,q5n]at h<;>refine⟨?_,trivial,rfl⟩<;>simp only[KX,Sd]<;>simp only[Cz]at hc
 .rw[show decide (a=b)=decide ((a:Int)=(b:Int)) by rw[Bool.eq_iff_iff];simp;omega];exact hc
 .rw[show decide (a≠b)=!decide ((a:Int)=(b:Int)) by rw[Bool.eq_iff_iff];simp;omega];exact hc
 .rw[show decide (a<b)=decide ((a:Int)<(b:Int)) by rw[Bool.eq_iff_iff];simp];exact hc
 .rw[show decide (a<=b)=decide ((a:Int)<=(b:Int)) by rw[Bool.eq_iff_iff];simp];exact hc
 .rw[show decide (b<a)=decide ((b:Int)<(a:Int)) by rw[Bool.eq_iff_iff];simp];exact hc
 .rw[show decide (b<=a)=decide ((b:Int)<=(a:Int)) by rw[Bool.eq_iff_iff];simp];exact hc
inductive IH where
 |no
 |sub
 |n (e b:Nat)
 |z (e:Int) (b:Nat)
def toB:WA->Option Bool
 | .pp q i=>some (@decide q i)
 | .dt .bool _ b=>some b
 | .vl (.bool b)=>some b
 |_=>none
theorem Hj{a:WA}{b:Bool}(h:toB a=some b):a.exp=[.val (.bool b)]:=by
 unfold toB at h;split at h
 .simp only[q6E]at h;subst h;rfl
 .simp only[q6E]at h;subst h;rfl
 .simp only[q6E]at h;subst h;rfl
 .cases h
def G3(P:Program)(t:TypeId):Bool:=match P.underlying t with|some .bool=>true|_=>false
theorem LX{t:TypeId}(h:G3 P t=true):P.underlying t=some .bool:=by
 unfold G3 at h;split at h
 .assumption
 .cases h
def PB (op : BinOp) (a b : WA) : HR :=
 match litZ a, litZ b with
 | some (k, z1), some (k', z2) => bif kbeq k k' || zC op then
   (bif A3 op then .ok [] (.c (.one (.vl (.bool (Cz op z1 z2))))) [] [] else match Pa op k z1 z2 with | some e => .ok [] (.c (.one (.kn k e))) [] [] | none => .bad) else .bad
 | _, _ =>
  match asN a, asN b with
  | some (k, b1, n1), some (k', b2, n2) => bif kbeq k k' || zC op then
    (bif A3 op then .ok [] (KX op n1 n2) [] [] else match Pc op k b1 n1 b2 n2 (D7 b) with
     | some (bb, n, vc) => .ok vc (vN k bb n) [] []
     | none => match Kz op k b1 n1 b2 n2 (D7 b) with
      | some (bb, z, vc) => .ok vc (vZ k bb z) [] []
      | none => .bad) else .bad
  | _, _ => match asZ a, asZ b with
   | some (k, b1, z1), some (k', b2, z2) => bif kbeq k k' then
    (bif A3 op then .ok [] (KY op z1 z2) [] [] else match Kz op k b1 z1 b2 z2 (D7 b) with
      | some (bb, z, vc) => .ok vc (vZ k bb z) [] []
      | none => .bad) else .bad
   | _, _ => .bad
def PC(op:BinOp)(h:IH)(a b:WA):HR:=
 match h with
 | .no=>PB op a b
 | .sub=>match op,asN a,asN b with
  | .sub,some (k,b1,n1),some (k',b2,n2)=>bif kbeq k k'&&Nat.ble b1 (kmax k)then .ok [n2<=n1] (vN k b1 (n1-n2)) [] []else .bad
  |_,_,_=> .bad
 | .n e bd=>match asZ a,asZ b with
  |some (k,_,z1),some (k',_,z2)=>bif kbeq k k'||zC op then .ok [qU op k z1 z2 e,e<=bd] (vN k bd e) [] []else .bad
  |_,_=> .bad
 | .z e bd=>match asZ a,asZ b with
  |some (k,_,z1),some (k',_,z2)=>bif kbeq k k'||zC op then .ok [qU op k z1 z2 e,e.natAbs<=bd] (vZ k bd e) [] []else .bad
  |_,_=> .bad
def nilQ:WA->Option Prop
 | .dt (.sl _) _ l=>some (l=[])
 |_=>none
theorem Ty.w_pos': ∀t:Ty,0<t.w
 | .nat _| .int _| .bool| .str| .mag| .sl _| .fn _| .pt _| .cl _ _=>Nat.succ_pos 0
 | .rat=>Nat.succ_pos 2
 | .pr a b=>q6g (Ty.w_pos' a) (Nat.le_add_right _ _)
 | .st t=>Ty.w_pos' t
theorem WG{t yt:TypeId}{x y:Operand}{A:Pred}{C:Prop}(ht:vy P t=true)(hA: ∀H v,A.p H v-> ∃p n c,v= .slice p n c/\(p.isNone=true->C)):
  OpOk P (.binOp .eql t x y yt) ty [(x,.c (.one (.abs A))),(y,.c (.one (.val (.slice none 0 0))))] [] (.c (.one (.abs (bqP C)))) []:=
 qP λa w H β hins _ _=>by
  obtain⟨p,n,c,hx,hp⟩:=hA H _ (hins _ q5Q);have hy:=(hins (y,.c (.one (.val (.slice none 0 0)))) (by simp)).1;simp only at hx hy;refine⟨.bool p.isNone,⟨_,rfl,hp⟩,λ_ _ _ _=>?_⟩;unfold vy at ht;split at ht
  .rename_i e he
   have heq:(Op.equal t (.slice p n c) (.slice none 0 0)).run P w= .ok p.isNone w:=IA he p n c w 9999;simp only[execOp,hx,hy]
   have hb:(do eqGuard .eql t x y (.slice p n c) (.slice none 0 0);binOp .eql t (.slice p n c) (.slice none 0 0):Sem Value).run P w= .ok (.bool p.isNone) w:=by
    show(do eqGuard .eql t x y (.slice p n c) (.slice none 0 0);pure (Value.bool (<-Op.equal t (.slice p n c) (.slice none 0 0))):Sem Value).run P w=_;simp[eqGuard,heq]
   simp only[q6H]at hb⊢;rw[hb];rfl
  .cases ht
theorem Ri{a:WA}{C:Prop}(h:nilQ a=some C): ∃A,a.exp=[.abs A]/\ ∀H v,A.p H v-> ∃p n c,v= .slice p n c/\(p.isNone=true->C):=by
 unfold nilQ at h;split at h
 .rename_i t b l
  simp only[q6E]at h;subst h;refine⟨_,rfl,?_⟩
  rintro H v ⟨p,c,rfl,_,hh⟩
  refine⟨p,_,c,rfl,λhn=>?_⟩;rcases hh with hh|⟨b,off,arr,h1,_⟩
  .have h1:=congrArg List.length hh
   rw[show(List.flatMap (cellsC t) l)=jb t l from rfl,v4]at h1;have h2:=Ty.w_pos' t
   have h3:l.length=0:=by
    rcases Nat.mul_eq_zero.1 h1 with h|h
    .exact h
    .omega
   exact List.length_eq_zero_iff.1 h3
  .subst h1;cases hn
 .cases h
def wBin(P:Program)(op:BinOp)(t:TypeId)(h:IH):WV->WV->HR
 | .c (.one a),.c (.one b)=>match toB a,toB b with
  |some p,some q=>bif G3 P t then(match op with
    | .eql=> .ok [] (vP (p=q) inferInstance) [] []
    | .neq=> .ok [] (vP (p≠q) inferInstance) [] []
    |_=> .bad)else .bad
  |_,_=>match op,nilQ a,zm b with
   | .eql,some C,true=>bif vy P t then .ok [] (.c (.one (.bq C))) [] []else .bad
   |_,_,_=>PC op h a b
 |_,_=> .bad
theorem AA{op:BinOp}{t yt:TypeId}{x y:Operand}{a b:WA}{k k':IntKind}{z1 z2:Int}{R:WV}(h1:a.exp=[.val (.int k z1)])(h2:b.exp=[.val (.int k' z2)])(h:OpOk P (.binOp op t x y yt) ty [(x,qo k z1),(y,qo k' z2)] [] R.exp []):
  OpOk P (.binOp op t x y yt) ty (List.zip [x,y] ([WV.c (.one a),.c (.one b)].map WV.exp)) (kinE []) R.exp (LwE []):=by
 show OpOk P _ _ [(x,(WV.c (.one a)).exp),(y,(WV.c (.one b)).exp)] [] _ [];rw[jq h1,jq h2];exact h
theorem Jk{op:Op}{x y:Operand}{a b:WA}{k k':IntKind}{z1 z2:Int}{R:WV}(h1:a.exp=[.val (.int k z1)])(h2:b.exp=[.val (.int k' z2)])(h:OpOk P op ty [(x,qo k z1),(y,qo k' z2)] [] R.exp []):
  OpOk P op ty (List.zip [x,y] ([WV.c (.one a),.c (.one b)].map WV.exp)) (kinE []) R.exp (LwE []):=by
 show OpOk P _ _ [(x,(WV.c (.one a)).exp),(y,(WV.c (.one b)).exp)] [] _ [];rw[jq h1,jq h2];exact h
theorem q1s{op:BinOp}{t yt:TypeId}{x y:Operand}{a b:WA}:HOk P (.binOp op t x y yt) ty [x,y] [.c (.one a),.c (.one b)] bl (PB op a b):=by
 unfold PB;split
 .rename_i k z1 k' z2 h1 h2
  have e1:=Dd h1;have e2:=Dd h2
  cases hk:kbeq k k'||zC op with
  |false=>exact trivial
  |true=>
   simp only[cond_true]
   cases hc:A3 op with
   |true=>
    intro hv _ _ kin hkk _;rw[qn hkk];have:zC op=false:=by cases op<;>simp_all [A3,zC]
    rw[this,Bool.or_false]at hk;cases vG hk;refine⟨AA e1 e2 (R:= .c (.one (.vl (.bool (Cz op z1 z2))))) (F2 hc),⟨rfl,rfl⟩,qx⟩
   |false=>
    simp only[cond_false];split
    .rename_i e he
     intro hv _ _ kin hkk _;rw[qn hkk];exact⟨AA e1 e2 (R:= .c (.one (.kn k e))) (Bg (Pb he) hk),⟨trivial,rfl⟩,qx⟩
    .exact trivial
 .split
  .rename_i k b1 n1 k' b2 n2 h1 h2
   obtain⟨e1,o1⟩:=v6 h1;obtain⟨e2,o2⟩:=v6 h2
   cases hk:kbeq k k'||zC op with
   |false=>exact trivial
   |true=>
    simp only[cond_true]
    cases hc:A3 op with
    |true=>
     intro hv _ _ kin hkk _;rw[qn hkk];have:zC op=false:=by cases op<;>simp_all [A3,zC]
     rw[this,Bool.or_false]at hk;cases vG hk;have:=TV (P:=P) (t:=t) (ty:=ty) (yt:=yt) (x:=x) (y:=y) (k:=k) (a:=n1) (b:=n2) hc;exact⟨AA e1 e2 this.1,this.2,qx⟩
    |false=>
     simp only[cond_false];split
     .rename_i bb n vc he
      intro hv _ hvc kin hkk _;rw[qn hkk];obtain⟨q1,q2⟩:=Pd he (o1 (hv _ q5Q).1) (o2 (hv (.c (.one b)) (by simp)).1) hvc;exact⟨AA e1 e2 (R:=vN k bb n) (Bg q1 hk),⟨q2,rfl⟩,qx⟩
     .split
      .rename_i bb n vc he
       intro hv _ hvc kin hkk _;rw[qn hkk];obtain⟨q1,q2⟩:=HX he (by have:=o1 (hv _ q5Q).1;simpa using this) (by have:=o2 (hv (.c (.one b)) (by simp)).1;simpa using this) hvc;exact⟨AA e1 e2 (R:=vZ k bb n) (Bg q1 hk),⟨q2,rfl⟩,qx⟩
      .exact trivial
  .split
   .rename_i k b1 z1 k' b2 z2 h1 h2
    obtain⟨e1,o1⟩:=vw h1;obtain⟨e2,o2⟩:=vw h2
    cases hk:kbeq k k' with
    |false=>exact trivial
    |true=>
     cases vG hk;simp only[cond_true]
     cases hc:A3 op with
     |true=>
      intro hv _ _ kin hkk _;rw[qn hkk];have:=Wm (P:=P) (t:=t) (ty:=ty) (yt:=yt) (x:=x) (y:=y) (k:=k) (a:=z1) (b:=z2) hc;exact⟨AA e1 e2 this.1,this.2,qx⟩
     |false=>
      simp only[cond_false];split
      .rename_i bb n vc he
       intro hv _ hvc kin hkk _;rw[qn hkk];obtain⟨q1,q2⟩:=HX he (o1 (hv _ q5Q).1) (o2 (hv (.c (.one b)) (by simp)).1) hvc;exact⟨AA e1 e2 (R:=vZ k bb n) (Bg q1 (by rw[hk];rfl)),⟨q2,rfl⟩,qx⟩
      .exact trivial
   .exact trivial
theorem q1t{op:BinOp}{t yt:TypeId}{x y:Operand}{h:IH}{a b:WA}:HOk P (.binOp op t x y yt) ty [x,y] [.c (.one a),.c (.one b)] bl (PC op h a b):=by
 unfold PC;split
 .exact q1s
 .split
  .rename_i k b1 n1 k' b2 n2 h1 h2
   obtain⟨e1,o1⟩:=v6 h1;obtain⟨e2,o2⟩:=v6 h2
   cases hk:kbeq k k'&&Nat.ble b1 (kmax k)with
   |false=>exact trivial
   |true=>
    simp only[q5m]at hk;cases vG hk.1;intro hv _ hvc kin hkk _;rw[qn hkk];have h3:n2<=n1:=hvc _ q5Q;have h4:=o1 (hv _ q5Q).1;have h5:=q6a hk.2;refine⟨AA e1 e2 (R:=vN k b1 (n1-n2)) (Rv ?_),⟨show n1-n2<=b1 by omega,rfl⟩,qx⟩;rw[<-Int.natCast_sub h3];exact Bx (by omega)
  .exact trivial
 .split
  .rename_i k b1 z1 k' b2 z2 h1 h2
   obtain⟨e1,o1⟩:=vw h1;obtain⟨e2,o2⟩:=vw h2
   cases hk:kbeq k k'||zC op with
   |false=>exact trivial
   |true=>
    intro hv _ hvc kin hkk _;rw[qn hkk];exact⟨AA e1 e2 (R:=vN k _ _) (Bg (hvc _ q5Q) hk),⟨hvc (_<=_) (q5P _ q5Q),rfl⟩,qx⟩
  .exact trivial
 .split
  .rename_i k b1 z1 k' b2 z2 h1 h2
   obtain⟨e1,o1⟩:=vw h1;obtain⟨e2,o2⟩:=vw h2
   cases hk:kbeq k k'||zC op with
   |false=>exact trivial
   |true=>
    intro hv _ hvc kin hkk _;rw[qn hkk];exact⟨AA e1 e2 (R:=vZ k _ _) (Bg (hvc _ q5Q) hk),⟨hvc (_<=_) (q5P _ q5Q),rfl⟩,qx⟩
  .exact trivial
theorem Er{a:WA}{b:Bool}(h:a.exp=[.val (.bool b)]):(WV.c (.one a)).exp=zx b:=by
 simp only[WV.exp,WC.exp,h,List.headD_cons]
theorem q3W{op:BinOp}{t yt:TypeId}{x y:Operand}{h:IH}{p v:WV}:HOk P (.binOp op t x y yt) ty [x,y] [p,v] bl (wBin P op t h p v):=by
 unfold wBin;split
 .rename_i a b
  split
  .rename_i p q h1 h2
   have e1:=Hj h1;have e2:=Hj h2
   cases ht:G3 P t with
   |false=>exact trivial
   |true=>
    have ht:=LX ht;simp only[cond_true];split
    .intro hv _ _ kin hkk _
     rw[qn hkk];refine⟨?_,⟨trivial,rfl⟩,qx⟩;show OpOk P _ _ [(x,(WV.c (.one a)).exp),(y,(WV.c (.one b)).exp)] [] (zx _) [];rw[Er e1,Er e2];exact q2h ht (by rw[Bool.eq_iff_iff];simp)
    .intro hv _ _ kin hkk _
     rw[qn hkk];refine⟨?_,⟨trivial,rfl⟩,qx⟩;show OpOk P _ _ [(x,(WV.c (.one a)).exp),(y,(WV.c (.one b)).exp)] [] (zx _) [];rw[Er e1,Er e2];exact q2p ht (by rw[Bool.eq_iff_iff];simp)
    .exact trivial
  .split
   .rename_i C hq hn
    have hn:=wt hn;subst hn;obtain⟨A,hA,hC⟩:=Ri hq
    cases ht:vy P t with
    |false=>exact trivial
    |true=>
     intro hv _ _ kin hkk _;rw[qn hkk];refine⟨?_,⟨trivial,rfl⟩,qx⟩
     have e1:(WV.c (.one a)).exp= .c (.one (.abs A)):=by
      show AV.c (.one (a.exp.headD _))=_;rw[hA];rfl
     show OpOk P _ _ [(x,(WV.c (.one a)).exp),(y,.c (.one (.val (.slice none 0 0))))] [] _ [];rw[e1];exact WG ht hC
   .exact q1t
 .exact trivial
def wUn(op:UnOp):WV->HR
 | .c (.one a)=>match op with
  | .not=>match a with
   | .pp q i=> .ok [] (vP (¬q) (@instDecidableNot q i)) [] []
   | .vl (.bool b)=> .ok [] (.c (.one (.vl (.bool (!b))))) [] []
   | .dt .bool _ b=> .ok [] (.c (.one (.dt .bool .u (!b)))) [] []
   |_=> .bad
  | .neg=>match litZ a with
   |some (k,z)=> .ok [] (.c (.one (.kn k (k.wrap (0-z))))) [] []
   |none=>match asZ a with
    |some (k,b,z)=>bif k.signed&&Nat.ble b (kmax k)then .ok [] (vZ k b (-z)) [] []else .bad
    |none=> .bad
  |_=> .bad
 |_=> .bad
theorem h_un{op:UnOp}{t:TypeId}{x:Operand}{v:WV}:HOk P (.unOp op t x) ty [x] [v] bl (wUn op v):=by
 unfold wUn;split
 .rename_i a
  split
  .split
   .rename_i q i
    intro hv _ _ kin hkk _;rw[qn hkk];refine⟨?_,⟨trivial,rfl⟩,qx⟩;exact Mi (by rw[Bool.eq_iff_iff];simp)
   .intro hv _ _ kin hkk _
    rw[qn hkk];exact⟨Mi rfl,⟨rfl,rfl⟩,qx⟩
   .intro hv _ _ kin hkk _
    rw[qn hkk];exact⟨Mi rfl,⟨trivial,rfl⟩,qx⟩
   .exact trivial
  .split
   .rename_i k z h1
    intro hv _ _ kin hkk _;rw[qn hkk];refine⟨?_,⟨trivial,rfl⟩,qx⟩;show OpOk P _ _ [(x,(WV.c (.one a)).exp)] [] (qo k _) [];rw[jq (Dd h1)];exact Rt rfl
   .split
    .rename_i k b z h1
     obtain⟨e1,o1⟩:=vw h1
     cases hk:k.signed&&Nat.ble b (kmax k)with
     |false=>exact trivial
     |true=>
      simp only[q5m]at hk;intro hv _ _ kin hkk _;rw[qn hkk];have h4:=o1 (hv _ q5Q).1;have h5:=q6a hk.2;have h6:(-z).natAbs<=b:=by omega
      refine⟨?_,⟨h6,rfl⟩,qx⟩;show OpOk P _ _ [(x,(WV.c (.one a)).exp)] [] (qo k _) [];rw[jq e1];exact Rt (by rw[show(0:Int) -z= -z by omega];exact By hk.1 (by omega))
    .exact trivial
  .exact trivial
 .exact trivial
def PE(P:Program)(src dst:TypeId)(h:IH):WV->HR
 | .c (.one a)=>match intK P dst with
  |some k=>bif (P.underlying src).isSome then(match h with
   | .n e bd=>match asZ a with
    |some (_,_,z)=> .ok [k.wrap z=(e:Int),e<=bd] (vN k bd e) [] []
    |none=> .bad
   | .z e bd=>match asZ a with
    |some (_,_,z)=> .ok [k.wrap z=e,e.natAbs<=bd] (vZ k bd e) [] []
    |none=> .bad
   |_=>match litZ a with
    |some (_,z)=> .ok [] (.c (.one (.kn k (k.wrap z)))) [] []
    |none=>match asN a with
     |some (_,b,n)=>bif Nat.ble b (kmax k)then .ok [] (vN k b n) [] []else bif k.signed then .bad else .ok [] (vN k (kmax k) (n%(kmax k+1))) [] []
     |none=>match asZ a with
      |some (_,b,z)=>bif k.signed&&Nat.ble b (kmax k)then .ok [] (vZ k b z) [] []else .bad
      |none=> .bad)else .bad
  |none=> .bad
 |_=> .bad
theorem QU{t:TypeId}{k:IntKind}(h:intK P t=some k):P.underlying t=some (.int k):=by
 unfold intK at h;split at h
 .rename_i h1;simp at h;subst h;exact h1
 .cases h
theorem TW{k:IntKind}(hs:k.signed=false)(n:Nat):k.wrap (n:Int)=((n%(kmax k+1):Nat):Int):=by
 cases k<;>simp[kmax,IntKind.wrap,IntKind.bits,IntKind.signed]at hs⊢
theorem Bj{src dst:TypeId}{x:Operand}{a:WA}{k k':IntKind}{z r:Int}{R:WV}(hd:intK P dst=some k)(hs:(P.underlying src).isSome=true)(ha:a.exp=[.val (.int k' z)])(hr:k.wrap z=r)(hR:R.exp=qo k r):
  OpOk P (.convert src dst x) ty (List.zip [x] ([WV.c (.one a)].map WV.exp)) (kinE []) R.exp (LwE []):=by
 obtain⟨d,hd'⟩:=Option.isSome_iff_exists.1 hs;show OpOk P _ _ [(x,(WV.c (.one a)).exp)] [] _ [];rw[jq ha,hR];exact Xq hd' (QU hd) hr
theorem q1v{src dst:TypeId}{h:IH}{x:Operand}{v:WV}:HOk P (.convert src dst x) ty [x] [v] bl (PE P src dst h v):=by
 unfold PE;split
 .rename_i a
  split
  .rename_i k hd
   cases hs:(P.underlying src).isSome with
   |false=>exact trivial
   |true=>
    simp only[cond_true];split
    .split
     .rename_i k' b z hz
      intro hv _ hvc kin hkk _;rw[qn hkk];exact⟨Bj hd hs (vw hz).1 (hvc _ q5Q) rfl,⟨hvc (_<=_) (q5P _ q5Q),rfl⟩,qx⟩
     .exact trivial
    .split
     .rename_i k' b z hz
      intro hv _ hvc kin hkk _;rw[qn hkk];exact⟨Bj hd hs (vw hz).1 (hvc _ q5Q) rfl,⟨hvc (_<=_) (q5P _ q5Q),rfl⟩,qx⟩
     .exact trivial
    .split
     .rename_i k' z hz
      intro hv _ hvc kin hkk _;rw[qn hkk];exact⟨Bj hd hs (Dd hz) rfl rfl,⟨trivial,rfl⟩,qx⟩
     .split
      .rename_i k' b n hn
       obtain⟨e1,o1⟩:=v6 hn
       cases hb:Nat.ble b (kmax k)with
       |true=>
        intro hv _ hvc kin hkk _;rw[qn hkk];have h1:=o1 (hv _ q5Q).1;exact⟨Bj hd hs e1 (Bx (q6e h1 (q6a hb))) (R:=vN k b n) rfl,⟨h1,rfl⟩,qx⟩
       |false=>
        simp only[cond_false]
        cases hsg:k.signed with
        |true=>exact trivial
        |false=>
         intro hv _ hvc kin hkk _;rw[qn hkk];exact⟨Bj hd hs e1 (TW hsg n) (R:=vN k _ _) rfl,⟨q6c (q6k _ (Nat.succ_pos _)),rfl⟩,qx⟩
      .split
       .rename_i k' b z hz
        obtain⟨e1,o1⟩:=vw hz
        cases hb:k.signed&&Nat.ble b (kmax k)with
        |false=>exact trivial
        |true=>
         simp only[q5m]at hb;intro hv _ hvc kin hkk _;rw[qn hkk];have h1:=o1 (hv _ q5Q).1;exact⟨Bj hd hs e1 (By hb.1 (q6e h1 (q6a hb.2))) (R:=vZ k b z) rfl,⟨h1,rfl⟩,qx⟩
       .exact trivial
  .exact trivial
 .exact trivial
def wLen(P:Program)(t:TypeId):WV->HR
 | .c (.one (.dt (.sl t') b (l:List t'.den)))=>bif vy P t then .ok [] (vN .i64 b.len l.length) [] []else .bad
 | .c (.one (.dt .mag b (x:Nat)))=>bif vy P t then .ok [] (vN .i64 (b.nb/32+1) (limbs x).length) [] []else .bad
 | .c (.one (.nn t' b (l:List t'.den)))=>bif vy P t then .ok [] (vN .i64 b.len l.length) [] []else .bad
 | .c (.one (.ls k lo n cap w nb))=>bif vy P t then .ok [] (vN .i64 nb n) [] []else .bad
 | .c (.one (.gs k n w nb))=>bif vy P t then .ok [] (vN .i64 nb n) [] []else .bad
 | .c (.one (.so k lo n w nb))=>bif vy P t then .ok [] (vN .i64 nb n) [] []else .bad
 | .c (.one a)=>bif vy P t&&zm a then .ok [] (.c (.one (.kn .i64 0))) [] []else .bad
 |_=> .bad
theorem Ec{t:TypeId}{x:Operand}{v R:AV}(h:vy P t=true)(hv:(∃k off n c,v= .c (.one (.sl k off n c))/\R=qo .i64 n)\/(∃k n,v= .c (.one (.gs k n))/\R=qo .i64 n)\/(v= .c (.one (.val (.slice none 0 0)))/\R=qo .i64 0)):
  OpOk P (.call {callee:= .builtin .len,args:= #[x],argTypes:= #[t]}) ty [(x,v)] [] R []:=by
 refine N6 ?_;unfold vy at h;unfold Oy;rcases hv with⟨k,off,n,c,rfl,rfl⟩|⟨k,n,rfl,rfl⟩|⟨rfl,rfl⟩
 all_goals
  simp only
  cases hu:P.underlying t with
  |none=>rw[hu]at h;cases h
  |some d=>cases d<;>rw[hu]at h<;>first|rfl|cases h
theorem q3Y{t:TypeId}{x:Operand}{v:WV}:HOk P (.call {callee:= .builtin .len,args:= #[x],argTypes:= #[t]}) ty [x] [v] bl (wLen P t v):=by
 unfold wLen;split
 .rename_i t' b l
  cases hs:vy P t with
  |false=>exact trivial
  |true=>
   intro hv _ hvc kin hkk _;rw[qn hkk];exact⟨gLen hs (NE _ _),⟨(Bnd.sl (hv _ q5Q).1).1,rfl⟩,qx⟩
 .rename_i b z
  cases hs:vy P t with
  |false=>exact trivial
  |true=>
   intro hv _ hvc kin hkk _;rw[qn hkk];exact⟨gLen hs (NE _ _),⟨(Bnd.limbs (Bnd.mag (hv _ q5Q).1)).1,rfl⟩,qx⟩
 .rename_i t' b l
  cases hs:vy P t with
  |false=>exact trivial
  |true=>
   intro hv _ hvc kin hkk _;rw[qn hkk];exact⟨gLen hs (λH v h=>by obtain⟨p,c,h,_⟩:=Rk H v h;exact⟨p,c,h⟩),⟨(Bnd.sl (hv _ q5Q).1).1,rfl⟩,qx⟩
 .rename_i k lo n cap w nb
  cases hs:vy P t with
  |false=>exact trivial
  |true=>
   intro hv _ hvc kin hkk _;rw[qn hkk];exact⟨Ec hs (.inl ⟨_,_,_,_,rfl,rfl⟩),⟨(hv _ q5Q).1.2,rfl⟩,qx⟩
 .rename_i k n w nb
  cases hs:vy P t with
  |false=>exact trivial
  |true=>
   intro hv _ hvc kin hkk _;rw[qn hkk];exact⟨Ec hs (.inr (.inl ⟨_,_,rfl,rfl⟩)),⟨(hv _ q5Q).1,rfl⟩,qx⟩
 .rename_i k lo n w nb
  cases hs:vy P t with
  |false=>exact trivial
  |true=>
   intro hv _ hvc kin hkk _;rw[qn hkk];exact⟨q1p hs,⟨(hv _ q5Q).1,rfl⟩,qx⟩
 .rename_i a _ _ _ _ _ _
  cases hs:vy P t&&zm a with
  |false=>exact trivial
  |true=>
   simp only[q5m]at hs;have:=wt hs.2;subst this
   intro hv _ hvc kin hkk _;rw[qn hkk];exact⟨Ec hs.1 (.inr (.inr ⟨rfl,rfl⟩)),⟨trivial,rfl⟩,qx⟩
 .exact trivial
theorem q2n{ty:TypeId}{x y:Operand}{ts:Array TypeId}{k:IntKind}{a b:Int}:
  OpOk P (.call {callee:= .builtin .max,args:= #[x,y],argTypes:=ts}) ty [(x,qo k a),(y,qo k b)] [] (qo k (max a b)) []:=
 qP λac w H β hins _ _=>by
  have hx:=(hins (x,qo k a) (by simp)).1;have hy:=(hins (y,qo k b) (by simp)).1;simp only at hx hy;refine⟨.int k (max a b),⟨rfl,rfl⟩,λ_ _ _ _=>?_⟩
  have e:(if b>a then b else a)=max a b:=by
   rw[Int.max_def];split<;>split<;>omega
  simp[execOp,resolve,invoke,builtin,hx,hy,Builtin.max_,Builtin.max2,e]
def wMax:WV->WV->HR
 | .c (.one a),.c (.one b)=>match asZ a,asZ b with
  |some (k,b1,z1),some (k',b2,z2)=>bif kbeq k k' then .ok [] (vZ k (b1+b2) (max z1 z2)) [] []else .bad
  |_,_=> .bad
 |_,_=> .bad
theorem q3Z{x y:Operand}{ts:Array TypeId}{v u:WV}:HOk P (.call {callee:= .builtin .max,args:= #[x,y],argTypes:=ts}) ty [x,y] [v,u] bl (wMax v u):=by
 unfold wMax;split
 .rename_i a b
  split
  .rename_i k b1 z1 k' b2 z2 h1 h2
   obtain⟨e1,o1⟩:=vw h1;obtain⟨e2,o2⟩:=vw h2
   cases hk:kbeq k k' with
   |false=>exact trivial
   |true=>
    have:=vG hk;subst this;intro hv _ hvc kin hkk _;rw[qn hkk];have q1:=o1 (hv _ q5Q).1;have q2:=o2 (hv (.c (.one b)) (by simp)).1;refine⟨Jk e1 e2 q2n,⟨?_,rfl⟩,qx⟩;show Int.natAbs (max z1 z2)<=b1+b2;rw[Int.max_def];split<;>omega
  .exact trivial
 .exact trivial
theorem Rs{ty:TypeId}{x y:Operand}{ts:Array TypeId}{k:IntKind}{a b:Int}:
  OpOk P (.call {callee:= .builtin .min,args:= #[x,y],argTypes:=ts}) ty [(x,qo k a),(y,qo k b)] [] (qo k (min a b)) []:=
 qP λac w H β hins _ _=>by
  have hx:=(hins (x,qo k a) (by simp)).1;have hy:=(hins (y,qo k b) (by simp)).1;simp only at hx hy;refine⟨.int k (min a b),⟨rfl,rfl⟩,λ_ _ _ _=>?_⟩
  have e:(if b<a then b else a)=min a b:=by
   rw[Int.min_def];split<;>split<;>omega
  simp[execOp,resolve,invoke,builtin,hx,hy,Builtin.min_,Builtin.min2,e]
def Vd(a b:WA):HR:=match asZ a,asZ b with
  |some (k,b1,z1),some (k',b2,z2)=>bif kbeq k k' then .ok [] (vZ k (b1+b2) (min z1 z2)) [] []else .bad
  |_,_=> .bad
def wMin:WV->WV->HR
 | .c (.one a),.c (.one b)=>match asN a,asN b with
  |some (k,b1,z1),some (k',b2,z2)=>bif kbeq k k' then .ok [] (vN k (min b1 b2) (min z1 z2)) [] []else .bad
  |_,_=>Vd a b
 |_,_=> .bad
theorem q40{x y:Operand}{ts:Array TypeId}{v u:WV}:HOk P (.call {callee:= .builtin .min,args:= #[x,y],argTypes:=ts}) ty [x,y] [v,u] bl (wMin v u):=by
 unfold wMin;split
 .rename_i a b
  split
  .rename_i k b1 z1 k' b2 z2 h1 h2
   obtain⟨e1,o1⟩:=v6 h1;obtain⟨e2,o2⟩:=v6 h2
   cases hk:kbeq k k' with
   |false=>exact trivial
   |true=>
    have:=vG hk;subst this;intro hv _ hvc kin hkk _;rw[qn hkk];have q1:=o1 (hv _ q5Q).1;have q2:=o2 (hv (.c (.one b)) (by simp)).1;have e:((min z1 z2:Nat):Int)=min (z1:Int) (z2:Int):=by omega
    refine⟨Jk e1 e2 (by have h:= @Rs P ty x y ts k z1 z2;rw[<-e]at h;exact h),⟨?_,rfl⟩,qx⟩;show min z1 z2<=min b1 b2;omega
  .unfold Vd
   split
   .rename_i k b1 z1 k' b2 z2 h1 h2
    obtain⟨e1,o1⟩:=vw h1;obtain⟨e2,o2⟩:=vw h2
    cases hk:kbeq k k' with
    |false=>exact trivial
    |true=>
     have:=vG hk;subst this;intro hv _ hvc kin hkk _;rw[qn hkk];have q1:=o1 (hv _ q5Q).1;have q2:=o2 (hv (.c (.one b)) (by simp)).1;refine⟨Jk e1 e2 Rs,⟨?_,rfl⟩,qx⟩;show Int.natAbs (min z1 z2)<=b1+b2;rw[Int.min_def];split<;>omega
   .exact trivial
 .exact trivial
end
end
section
section
variable {P:Program} {bl:Nat->Option WB} {ty:TypeId}
def asL:WA->Option (Sigma λt:Ty=>Bd×List t.den)
 | .dt (.sl t) b (l:List t.den)=>some ⟨t,b,l⟩
 | .dt .mag b (x:Nat)=>some ⟨.nat .u32,I9 b.nb,limbs x⟩
 |_=>none
theorem Bf{a:WA}{t:Ty}{b:Bd}{l:List t.den}(h:asL a=some ⟨t,b,l⟩):a.exp=[.abs (flP (jb t l) l.length)]/\(a.ok->Bnd (.sl t) b l):=by
 unfold asL at h;split at h
 .simp only[q6E]at h;cases h;exact⟨rfl,λh=>h⟩
 .simp only[q6E]at h;cases h
  refine⟨?_,λh=>Bnd.limbs (Bnd.mag h)⟩;show[Atom.abs (natP _)]=_;rw[Fd]
 .cases h
def vL(t:Ty)(n:Nat)(e:Bd)(l:List t.den):WV:= .c (.one (.dt (.sl t) (.s n e) l))
theorem Fx(t:Ty)(n:Nat)(e:Bd)(l:List t.den):(vL t n e l).exp= .c (.one (.abs (flP (jb t l) l.length))):=rfl
theorem Cf{a:WA}{A:Pred}(h:a.exp=[.abs A]):(WV.c (.one a)).exp= .c (.one (.abs A)):=by
 simp only[WV.exp,WC.exp,h,List.headD_cons]
def Ph(lo:Option Nat)(j:Nat):Option Nat:=some (offs lo j)
def Ho(P:Program)(t:TypeId)(bl:Nat->Option WB)(a r:WA):HR:=
 match asN r,jH P t with
 |some (_,rb,r),some es=>match asL a with
  |some ⟨t',b,l⟩=>bif Nat.beq es t'.w&&Nat.blt 0 t'.w then .ok [r<=l.length] (vL t' b.len b.e (l.take r)) [] []else .bad
  |none=>match a with
   | .ls k lo n cap w nb=>bif Nat.beq es w then .ok [r<=cap] (.c (.one (.ls k lo r cap w rb))) [] []else .bad
   | .gs k n w nb=>match bl k with
    |some (.gro t' b l)=>bif Nat.beq es w&&Nat.beq w t'.w&&Nat.blt 0 w then .ok [r<=n,n<=l.length] (.c (.one (.gs k r w rb))) [k] []else .bad
    |_=> .bad
   |_=> .bad
 |_,_=> .bad
def Hr(P:Program)(t:TypeId)(bl:Nat->Option WB)(a l0:WA):HR:=
 match asN l0,jH P t with
 |some (_,_,l0),some es=>match asL a with
  |some ⟨t',b,l⟩=>bif Nat.beq es t'.w&&Nat.blt 0 t'.w then .ok [l0<=l.length] (vL t' b.len b.e (l.drop l0)) [] []else .bad
  |none=>match a with
   | .ls k lo n cap w nb=>bif Nat.beq es w then .ok [l0<=n,l0<cap] (.c (.one (.ls k (Ph lo l0) (n-l0) (cap-l0) w nb))) [] []else .bad
   | .gs k n w nb=>match bl k with
    |some (.gro t' b l)=>bif Nat.beq es w&&Nat.beq w t'.w&&Nat.blt 0 w then .ok [l0<=n,n<=l.length] (.c (.one (.so k l0 (n-l0) w nb))) [k] []else .bad
    |_=> .bad
   |_=> .bad
 |_,_=> .bad
def Hq(P:Program)(t:TypeId)(a l0 r:WA):HR:=
 match asN l0,asN r,jH P t with
 |some (_,_,l0),some (_,rb,r),some es=>match asL a with
  |some ⟨t',b,l⟩=>bif Nat.beq es t'.w&&Nat.blt 0 t'.w then .ok [l0<=r,r<=l.length] (vL t' b.len b.e ((l.drop l0).take (r-l0))) [] []else .bad
  |none=>match a with
   | .ls k lo n cap w nb=>bif Nat.beq es w then .ok [l0<=r,r<=cap,l0<cap] (.c (.one (.ls k (Ph lo l0) (r-l0) (cap-l0) w rb))) [] []else .bad
   |_=> .bad
 |_,_,_=> .bad
def JH(P:Program)(t:TypeId)(a r m:WA):HR:=
 match asN r,asN m,jH P t with
 |some (k1,rb,r),some (k2,_,m),some es=>match a with
   | .ls k lo n cap w nb=>bif Nat.beq es w&&kbeq k1 k2 then .ok [r<=cap,r=m] (.c (.one (.ls k lo r r w rb))) [] []else .bad
   |_=> .bad
 |_,_,_=> .bad
def Hp(P:Program)(t:TypeId)(a l0 r m:WA):HR:=
 match asN l0,asN r,asN m,jH P t with
 |some (_,_,l0),some (k1,rb,r),some (k2,_,m),some es=>match a with
   | .ls k lo n cap w nb=>bif Nat.beq es w&&kbeq k1 k2 then .ok [l0<r,r<=cap,r=m] (.c (.one (.ls k (Ph lo l0) (r-l0) (r-l0) w rb))) [] []else .bad
   |_=> .bad
 |_,_,_,_=> .bad
def MV(P:Program)(t:TypeId)(bl:Nat->Option WB)(lo hi mx:Option Operand)(vs:List WV):HR:=
 match lo,hi,mx,vs with
 |none,some _,none,[.c (.one a),.c (.one r)]=>Ho P t bl a r
 |some _,none,none,[.c (.one a),.c (.one l)]=>Hr P t bl a l
 |some _,some _,none,[.c (.one a),.c (.one l),.c (.one r)]=>Hq P t a l r
 |none,some _,some _,[.c (.one a),.c (.one r),.c (.one m)]=>JH P t a r m
 |some _,some _,some _,[.c (.one a),.c (.one l),.c (.one r),.c (.one m)]=>Hp P t a l r m
 |_,_,_,_=> .bad
theorem F5{c c':List CAtom}{n n':Nat}(h:c=c')(k:n=n'):(AV.c (.one (.abs (flP c n))))= .c (.one (.abs (flP c' n'))):=by rw[h,k]
theorem Lg{t:Ty}{b:Bd}{l:List t.den}(h:Bnd (.sl t) b l)(r:Nat):Bnd (.sl t) (.s b.len b.e) (l.take r):=
 ⟨by have:=(Bnd.sl h).1;rw[q5L];omega,λx hx=>(Bnd.sl h).2 x (q5T hx)⟩
theorem Ld{t:Ty}{b:Bd}{l:List t.den}(h:Bnd (.sl t) b l)(r:Nat):Bnd (.sl t) (.s b.len b.e) (l.drop r):=
 ⟨by have:=(Bnd.sl h).1;rw[q5I];omega,λx hx=>(Bnd.sl h).2 x (q6V hx)⟩
theorem QL{t:TypeId}{x z:Operand}{a r:WA}:HOk P (.slice t x none (some z) none) ty [x,z] [.c (.one a),.c (.one r)] bl (Ho P t bl a r):=by
 unfold Ho;split
 .rename_i kk rb r es hr hes
  obtain⟨er,or⟩:=v6 hr;split
  .rename_i t' b l hl
   obtain⟨el,ol⟩:=Bf hl
   cases hb:Nat.beq es t'.w&&Nat.blt 0 t'.w with
   |false=>exact trivial
   |true=>
    simp only[q5m]at hb;have:=q68 hb.1;subst this
    intro hv _ hvc kin hk _;rw[qn hk];have hrl:r<=l.length:=hvc _ q5Q;refine⟨?_,⟨Lg (ol (hv _ q5Q).1) r,rfl⟩,qx⟩;show OpOk P _ _ [(x,(WV.c (.one a)).exp),(z,(WV.c (.one _)).exp)] [] _ [];rw[Cf el,jq er,Fx];rw[F5 (c':=jb t' (l.take r)) (n':=r-0) rfl (by rw[q5L];omega)];exact SQ hes (by simpa using hb.2) (v4 _ _) rfl hrl (by rw[q6B,q5v,Nat.sub_zero,A9])
  .split
   .rename_i k lo n cap w nb _
    cases hb:Nat.beq es w with
    |false=>exact trivial
    |true=>
     have:=q68 hb;subst this
     intro hv _ hvc kin hk _;rw[qn hk];have hrl:r<=cap:=hvc _ q5Q;refine⟨?_,⟨⟨hrl,or (hv _ (q5P _ q5Q)).1⟩,rfl⟩,qx⟩;show OpOk P _ _ [(x,_),(z,(WV.c (.one _)).exp)] [] (.c (.one (.sl k (lo.getD 0*es) r cap))) [];rw[jq er];have:=OO (P:=P) (t:=t) (ty:=ty) (x:=x) (z:=z) (k:=k) (off:=lo.getD 0*es) (n:=n) (cap:=cap) (k2:=kk) (i2:=(r:Int)) hes rfl hrl;rw[q6B,q64,Nat.sub_zero,Nat.sub_zero]at this;exact this
   .rename_i k n w nb _
    split
    .rename_i t' b l hl
     cases hb:Nat.beq es w&&Nat.beq w t'.w&&Nat.blt 0 w with
     |false=>exact trivial
     |true=>
      simp only[q5m]at hb;have:=q68 hb.1.1;subst this
      have:=q68 hb.1.2;subst this
      intro hv _ hvc kin hk hkb;rw[zD hk hkb hl];have hrn:r<=n:=hvc _ q5Q;have hnl:n<=l.length:=hvc (n<=l.length) (by simp);refine⟨?_,⟨or (hv _ (q5P _ q5Q)).1,rfl⟩,qx⟩;show OpOk P _ _ [(x,_),(z,(WV.c (.one _)).exp)] [(k,.grow t'.w (je t' l))] (.c (.one (.gs k r))) [];rw[jq er];exact OM hes (by simpa using hb.2) rfl hrn (by rw[zH];exact q6r _ hnl)
    .exact trivial
   .exact trivial
 .exact trivial
theorem QO{t:TypeId}{x z:Operand}{a r:WA}:HOk P (.slice t x (some z) none none) ty [x,z] [.c (.one a),.c (.one r)] bl (Hr P t bl a r):=by
 unfold Hr;split
 .rename_i kk rb r es hr hes
  obtain⟨er,or⟩:=v6 hr;split
  .rename_i t' b l hl
   obtain⟨el,ol⟩:=Bf hl
   cases hb:Nat.beq es t'.w&&Nat.blt 0 t'.w with
   |false=>exact trivial
   |true=>
    simp only[q5m]at hb;have:=q68 hb.1;subst this
    intro hv _ hvc kin hk _;rw[qn hk];have hrl:r<=l.length:=hvc _ q5Q;refine⟨?_,⟨Ld (ol (hv _ q5Q).1) r,rfl⟩,qx⟩;show OpOk P _ _ [(x,(WV.c (.one a)).exp),(z,(WV.c (.one _)).exp)] [] _ [];rw[Cf el,jq er,Fx];rw[F5 (c':=jb t' (l.drop r)) (n':=l.length-r) rfl (by rw[q5I])];exact ST hes (by simpa using hb.2) (v4 _ _) rfl hrl (by rw[BH,q5Z (by rw[v4,q5I];exact q6d _)])
  .split
   .rename_i k lo n cap w nb _
    cases hb:Nat.beq es w with
    |false=>exact trivial
    |true=>
     have:=q68 hb;subst this
     intro hv _ hvc kin hk _;rw[qn hk];have h1:r<=n:=hvc _ q5Q;have h2:r<cap:=hvc (r<cap) (by simp);have ho:n<=cap/\n<=nb:=(hv _ q5Q).1;refine⟨?_,⟨⟨by omega,by omega⟩,rfl⟩,qx⟩;show OpOk P _ _ [(x,_),(z,(WV.c (.one _)).exp)] [] (.c (.one (.sl k (offs lo r*es) (n-r) (cap-r)))) [];rw[jq er,Dg,q63];exact OR hes rfl h1 ho.1 h2
   .rename_i k n w nb _
    split
    .rename_i t' b l hl
     cases hb:Nat.beq es w&&Nat.beq w t'.w&&Nat.blt 0 w with
     |false=>exact trivial
     |true=>
      simp only[q5m]at hb;have:=q68 hb.1.1;subst this
      have:=q68 hb.1.2;subst this
      intro hv _ hvc kin hk hkb;rw[zD hk hkb hl];have hrn:r<=n:=hvc _ q5Q;have hnl:n<=l.length:=hvc (n<=l.length) (by simp);have ho:n<=nb:=(hv _ q5Q).1;refine⟨?_,⟨show n-r<=nb by omega,rfl⟩,qx⟩;show OpOk P _ _ [(x,_),(z,(WV.c (.one _)).exp)] [(k,.grow t'.w (je t' l))] (.c (.one (.so k (r*t'.w) r (n-r)))) [];rw[jq er];exact ON hes (by simpa using hb.2) rfl hrn (by rw[zH];exact q6r _ hnl)
    .exact trivial
   .exact trivial
 .exact trivial
theorem QN{t:TypeId}{x y z:Operand}{a l r:WA}:HOk P (.slice t x (some y) (some z) none) ty [x,y,z] [.c (.one a),.c (.one l),.c (.one r)] bl (Hq P t a l r):=by
 unfold Hq;split
 .rename_i k1 b1 l0 k2 rb r es hl0 hr hes
  obtain⟨e0,o0⟩:=v6 hl0;obtain⟨er,or⟩:=v6 hr;split
  .rename_i t' b l hl
   obtain⟨el,ol⟩:=Bf hl
   cases hb:Nat.beq es t'.w&&Nat.blt 0 t'.w with
   |false=>exact trivial
   |true=>
    simp only[q5m]at hb;have:=q68 hb.1;subst this
    intro hv _ hvc kin hk _;rw[qn hk];have h1:l0<=r:=hvc _ q5Q;have h2:r<=l.length:=hvc (r<=l.length) (by simp);refine⟨?_,⟨Lg (b:= .s b.len b.e) (Ld (ol (hv _ q5Q).1) l0) (r-l0),rfl⟩,qx⟩;show OpOk P _ _ [(x,(WV.c (.one a)).exp),(y,(WV.c (.one _)).exp),(z,(WV.c (.one _)).exp)] [] _ [];rw[Cf el,jq e0,jq er,Fx];rw[F5 (c':=jb t' ((l.drop l0).take (r-l0))) (n':=r-l0) rfl (by rw[q5L,q5I];omega)];exact SS hes (by simpa using hb.2) (v4 _ _) rfl rfl h1 h2 (by rw[BH,A9])
  .split
   .rename_i k lo n cap w nb _
    cases hb:Nat.beq es w with
    |false=>exact trivial
    |true=>
     have:=q68 hb;subst this
     intro hv _ hvc kin hk _;rw[qn hk];have h1:l0<=r:=hvc _ q5Q;have h2:r<=cap:=hvc (r<=cap) (by simp);have h3:l0<cap:=hvc (l0<cap) (by simp);have h4:=or (hv _ (q5P _ (q5P _ q5Q))).1;refine⟨?_,⟨⟨by omega,by omega⟩,rfl⟩,qx⟩;show OpOk P _ _ [(x,_),(y,(WV.c (.one _)).exp),(z,(WV.c (.one _)).exp)] [] (.c (.one (.sl k (offs lo l0*es) (r-l0) (cap-l0)))) [];rw[jq e0,jq er,Dg,q63];exact OQ hes rfl rfl h1 h2 h3
   .exact trivial
 .exact trivial
theorem SX{t:TypeId}{x z z':Operand}{a r m:WA}:HOk P (.slice t x none (some z) (some z')) ty [x,z,z'] [.c (.one a),.c (.one r),.c (.one m)] bl (JH P t a r m):=by
 unfold JH;split
 .rename_i k1 rb r k2 mb m es hr hm hes
  obtain⟨er,or⟩:=v6 hr;obtain⟨em,om⟩:=v6 hm;split
  .rename_i k lo n cap w nb
   cases hb:Nat.beq es w&&kbeq k1 k2 with
   |false=>exact trivial
   |true=>
    simp only[q5m]at hb;have:=q68 hb.1;subst this
    cases vG hb.2;intro hv _ hvc kin hk _;rw[qn hk];have h1:r<=cap:=hvc _ q5Q;have h2:r=m:=hvc (r=m) (by simp);have h4:=or (hv _ (q5P _ q5Q)).1;refine⟨?_,⟨⟨q6d _,h4⟩,rfl⟩,qx⟩;show OpOk P _ _ [(x,_),(z,(WV.c (.one _)).exp),(z',(WV.c (.one _)).exp)] [] (.c (.one (.sl k (lo.getD 0*es) r r))) [];rw[jq er,jq em,<-h2];exact QG hes rfl h1
  .exact trivial
 .exact trivial
theorem QM{t:TypeId}{x y z z':Operand}{a l r m:WA}:HOk P (.slice t x (some y) (some z) (some z')) ty [x,y,z,z'] [.c (.one a),.c (.one l),.c (.one r),.c (.one m)] bl (Hp P t a l r m):=by
 unfold Hp;split
 .rename_i k0 b0 l0 k1 rb r k2 mb m es hl hr hm hes
  obtain⟨el,ol⟩:=v6 hl;obtain⟨er,or⟩:=v6 hr;obtain⟨em,om⟩:=v6 hm;split
  .rename_i k lo n cap w nb
   cases hb:Nat.beq es w&&kbeq k1 k2 with
   |false=>exact trivial
   |true=>
    simp only[q5m]at hb;have:=q68 hb.1;subst this
    cases vG hb.2;intro hv _ hvc kin hk _;rw[qn hk];have h1:l0<r:=hvc _ q5Q;have h2:r<=cap:=hvc (r<=cap) (by simp);have h3:r=m:=hvc (r=m) (by simp);have h4:=or (hv _ (q5P _ (q5P _ q5Q))).1;refine⟨?_,⟨⟨q6d _,by omega⟩,rfl⟩,qx⟩;show OpOk P _ _ [(x,_),(y,(WV.c (.one _)).exp),(z,(WV.c (.one _)).exp),(z',(WV.c (.one _)).exp)] [] (.c (.one (.sl k (offs lo l0*es) (r-l0) (r-l0)))) [];rw[jq el,jq er,jq em,<-h3,Dg,q63];exact OP hes rfl rfl h1 h2
  .exact trivial
 .exact trivial
theorem WU{t:TypeId}{x:Operand}{lo hi mx:Option Operand}{vs:List WV}:HOk P (.slice t x lo hi mx) ty (Op.operands (.slice t x lo hi mx)).toList vs bl (MV P t bl lo hi mx vs):=by
 unfold MV;split
 .exact QL
 .exact QO
 .exact QN
 .exact SX
 .exact QM
 .exact trivial
def zc:Ty->Option (List Value)
 | .nat k=>some [.int k 0]
 | .int k=>some [.int k 0]
 | .bool=>some [.bool false]
 | .str=>some [.string ByteArray.empty]
 | .mag=>some [.slice none 0 0]
 | .rat=>some [.bool false,.slice none 0 0,.slice none 0 0]
 | .sl _=>some [.slice none 0 0]
 | .pr a b=>match zc a with
  |some x=>match zc b with
   |some y=>some (x++y)
   |none=>none
  |none=>none
 | .st t=>zc t
 | .fn _=>none
 | .pt _=>none
 | .cl _ _=>none
theorem Eb: ∀{t:Ty}{vs:List Value},zc t=some vs-> ∀β H,Sats β H (qO t t.dft) vs
 | .nat k,vs,h,β,H=>by simp[zc]at h;subst h;exact⟨⟨rfl,rfl⟩,trivial⟩
 | .int k,vs,h,β,H=>by simp[zc]at h;subst h;exact⟨⟨rfl,rfl⟩,trivial⟩
 | .bool,vs,h,β,H=>by simp[zc]at h;subst h;exact⟨⟨rfl,rfl⟩,trivial⟩
 | .str,vs,h,β,H=>by simp[zc]at h;subst h;exact⟨⟨rfl,rfl⟩,trivial⟩
 | .mag,vs,h,β,H=>by simp[zc]at h;subst h;exact⟨flnil,trivial⟩
 | .rat,vs,h,β,H=>by simp[zc]at h;subst h;exact⟨⟨rfl,rfl⟩,flnil,flnil,trivial⟩
 | .sl _,vs,h,β,H=>by simp[zc]at h;subst h;exact⟨flnil,trivial⟩
 | .pr a b,vs,h,β,H=>by
  simp only[zc]at h
  cases h1:zc a with
  |none=>rw[h1]at h;cases h
  |some x=>
   rw[h1]at h;simp only at h
   cases h2:zc b with
   |none=>rw[h2]at h;cases h
   |some y=>
    rw[h2]at h;simp at h;subst h
    have:qO (.pr a b) (Ty.dft (.pr a b))=qO a a.dft++qO b b.dft:=by simp[qO,cellsC,Ty.dft]
    rw[this];exact Sats.append (Eb h1 β H) (Eb h2 β H)
 | .st t,vs,h,β,H=>Eb (t:=t) h β H
 | .fn _,vs,h,β,H=>by simp[zc]at h
 | .pt _,vs,h,β,H=>by simp[zc]at h
 | .cl _ _,vs,h,β,H=>by simp[zc]at h
def veq:Value->Value->Bool
 | .int k z,.int k' z'=>kbeq k k'&&decide (z=z')
 | .bool a,.bool b=>(a&&b)||(!a&&!b)
 | .string a,.string b=>Nat.beq a.size 0&&Nat.beq b.size 0
 | .slice none n c,.slice none n' c'=>Nat.beq n n'&&Nat.beq c c'
 |_,_=>false
theorem Sf{a b:Value}(h:veq a b=true):a=b:=by
 unfold veq at h;split at h
 .simp only[q5m,decide_eq_true_eq]at h;rw[vG h.1,h.2]
 .rename_i a b;cases a<;>cases b<;>first|rfl|cases h
 .simp only[q5m]at h
  rename_i a b;have h1:=q68 h.1;have h2:=q68 h.2
  congr 1
  apply ByteArray.ext;exact(q5l h1).trans (q5l h2).symm
 .simp only[q5m]at h;rw[q68 h.1,q68 h.2]
 .cases h
def vseq:List Value->List Value->Bool
 |[],[]=>true
 |a::r,b::s=>veq a b&&vseq r s
 |_,_=>false
theorem Om: ∀{a b:List Value},vseq a b=true->a=b
 |[],[],_=>rfl
 |a::r,b::s,h=>by
  simp only[vseq,q5m]at h;rw[Sf h.1,Om h.2]
 |[],_::_,h=>by simp[vseq]at h
 |_::_,[],h=>by simp[vseq]at h
theorem PP(z:Array Value)(hz:0<z.size): ∀n:Nat,((Array.range (n*z.size)).map (z[· %z.size]!)).toList=(List.replicate n z.toList).flatten:=by
 intro n
 have main: ∀n:Nat,(List.range (n*z.size)).map (λi=>z[i%z.size]!)=(List.replicate n z.toList).flatten:=by
  intro n
  induction n with
  |zero=>simp
  |succ n ih=>
   rw[q6y,List.range_add,List.map_append,ih,List.replicate_succ',List.flatten_append]
   congr 1
   rw[List.map_map];simp only[List.flatten_cons,List.flatten_nil,List.append_nil];refine List.ext_getElem (by simp) λi h1 h2=>?_
   have hi:i<z.size:=by simpa using h1
   simp only[List.getElem_map,Function.comp,List.getElem_range];rw[show(n*z.size+i)%z.size=i by rw[Nat.add_comm,Nat.add_mul_mod_self_right,q6j hi]];simp[hi]
 rw[Array.toList_map,Array.toList_range];exact main n
theorem Dw{t:Ty}{z:Array Value}(h:zc t=some z.toList)(hw:0<t.w)(n:Nat)(β:Bm)(H:Heap):Sats β H (je t (List.replicate n t.dft)) (((Array.range (n*t.w)).map (z[· %z.size]!)).toList):=by
 have hs:z.size=t.w:=by
  have:=(Eb h β H).length;rw[zj]at this;simpa using this.symm
 rw[<-hs,PP z (by omega)]
 induction n with
 |zero=>exact trivial
 |succ n ih=>
  rw[List.replicate_succ,List.replicate_succ,List.flatten_cons];show Sats β H (qO t t.dft++je t _) _;exact Sats.append (Eb h β H) ih
inductive MH where
 |no
 |arr (t:Ty) (b:Bd)
 |gro (t:Ty) (b:Bd)
 |im (t:Ty) (b:Bd)
def zOk(P:Program)(ts:TypeId)(t:Ty):Bool:=
 match elZ P ts,elB P ts,zc t with
 |some z,some (s,_),some l=>vseq l z.toList&&Nat.beq s t.w&&Nat.blt 0 s
 |_,_,_=>false
theorem CU{ts:TypeId}{t:Ty}(h:zOk P ts t=true): ∃z b,elZ P ts=some z/\elB P ts=some (t.w,b)/\zc t=some z.toList/\0<t.w/\z.size=t.w:=by
 unfold zOk at h;split at h
 .rename_i z s b l h1 h2 h3
  simp only[q5m]at h;have e1:=Om h.1.1;have e2:=q68 h.1.2;subst e1 e2;refine⟨z,b,h1,h2,h3,by simpa using h.2,?_⟩;have:=(Eb h3 (λ_=>none) (λ_=>none)).length;rw[zj]at this;simpa using this.symm
 .cases h
def Bd.fit:Ty->Bd->Bool
 | .nat _,.n _| .int _,.n _| .str,.n _| .mag,.n _| .rat,.n _=>true
 | .bool,_| .fn _,_=>true
 | .sl t,.s _ e=>true
 | .pr a b,.p c d=>Bd.fit a c&&Bd.fit b d
 | .st t,e=>Bd.fit t e
 |_,_=>false
theorem DG: ∀{t:Ty}{b:Bd},Bd.fit t b=true->Bnd t b t.dft
 | .nat _,.n _,_=>q6A _
 | .int _,.n _,_=>q6A _
 | .str,.n _,_=>q6A _
 | .mag,.n b,_=>show(0:Nat)<2^b from q6w (by decide)
 | .rat,.n b,_=>⟨show(0:Nat)<2^b from q6w (by decide),show(1:Nat)<=2^b from q6w (by decide)⟩
 | .bool,_,_=>trivial
 | .fn _,_,_=>trivial
 | .sl t,.s _ e,_=>⟨q6A _,λx hx=>by simp[Ty.dft]at hx⟩
 | .pr a b,.p c d,h=>by
  simp only[Bd.fit,q5m]at h;exact⟨DG h.1,DG h.2⟩
 | .st t,e,h=>DG (t:=t) h
 | .nat _,.u,h| .nat _,.s _ _,h| .nat _,.p _ _,h=>by simp[Bd.fit]at h
 | .int _,.u,h| .int _,.s _ _,h| .int _,.p _ _,h=>by simp[Bd.fit]at h
 | .str,.u,h| .str,.s _ _,h| .str,.p _ _,h=>by simp[Bd.fit]at h
 | .mag,.u,h| .mag,.s _ _,h| .mag,.p _ _,h=>by simp[Bd.fit]at h
 | .rat,.u,h| .rat,.s _ _,h| .rat,.p _ _,h=>by simp[Bd.fit]at h
 | .sl _,.u,h| .sl _,.n _,h| .sl _,.p _ _,h=>by simp[Bd.fit]at h
 | .pr _ _,.u,h| .pr _ _,.n _,h| .pr _ _,.s _ _,h=>by simp[Bd.fit]at h
theorem QF{t ty:TypeId}{x y:Operand}{d n s b:Nat}{z:Array Value}(hb:elB P t=some (s,b))(hz:elZ P t=some z)(hs:0<s)(hn:n*b<=281474976710656)(hn2:n<9223372036854775808)
  {R:AV}{B:Blk}(hR: ∀(β:Bm)(H:Heap)(w:World),R.sat (β.set d (some (w.heap.size,n))) H (.slice (some ⟨w.heap.size,0,none⟩) n n))
  (hB: ∀(β:Bm)(H:Heap)(w:World)(T:TypeId),B.rep (β.set d (some (w.heap.size,n))) (w.alloc (.cells ((Array.range (n*s)).map (z[· %z.size]!)) T)) H d):
  OpOk P (.makeSlice t x y) ty [(x,qo .i64 n),(y,qo .i64 n)] [] R [(d,some B)]:=by
 intro dst pos after guard a w H β K Q hins _ _ hon hK;have hx:=(hins _ q5Q).1;have hy:=(hins (y,qo .i64 n) (by simp)).1;simp only at hx hy;obtain⟨T,hrun⟩:=Ko hb hz .i64 n hn hn2 hs w;unfold Oper.wp
 have:(execOp a.eval ⟨dst,.makeSlice t x y,ty,pos,after,guard⟩).run P w= .ok (.value (.slice (some ⟨w.heap.size,0,none⟩) n n)) (w.alloc (.cells ((Array.range (n*s)).map (z[· %z.size]!)) T)):=by
  simp only[execOp,hx,hy,q6H,hrun,q6G,q6I]
 rw[this];refine hK _ _ H (β.set d (some (w.heap.size,n))) ?_ (hR _ _ _) ?_
 .simpa[kwOf,qX,vg,look]using Step.alloc (β:=β) d n (.cells _ T) hon
 .intro k' b' hb'
  simp only[q5U,q6F,q6E]at hb';obtain⟨rfl,rfl⟩:=hb';exact hB _ _ _ _
def UE(h:MH)(d:Nat)(nb n:Nat)(l:(t:Ty)->List t.den):Option (Ty×Bd×WV×WB):=
 match h with
 | .arr t b=>some (t,b,.c (.one (.ls d none n n t.w nb)),.arr t b (l t))
 | .gro t b=>some (t,b,.c (.one (.gs d n t.w nb)),.gro t b (l t))
 |_=>none
def PG(P:Program)(ts:TypeId)(h:MH)(d:Nat):WV->WV->HR
 | .c (.one a),.c (.one c)=>match asN a,asN c,elB P ts with
  |some (.i64,nb,n),some (.i64,_,m),some (_,by_)=>match UE h d nb n (λt=>List.replicate n t.dft)with
   |some (t,b,R,B)=>bif zOk P ts t&&Bd.fit t b&&Nat.ble (nb*by_) 281474976710656&&Nat.ble nb 9223372036854775807 then
     (bif D7 a&&D7 c&&Nat.beq n m then .ok [] R [] [(d,some B)]else .ok [m=n] R [] [(d,some B)])else .bad
   |none=> .bad
  |_,_,_=> .bad
 |_,_=> .bad
theorem q1x{ts:TypeId}{h:MH}{d:Nat}{x y:Operand}{p v:WV}:HOk P (.makeSlice ts x y) ty [x,y] [p,v] bl (PG P ts h d p v):=by
 unfold PG;split
 .rename_i a c
  split
  .rename_i nb n mb m s by_ ha hc hb
   obtain⟨ea,oa⟩:=v6 ha;obtain⟨ec,oc⟩:=v6 hc;split
   .rename_i t b R B hm
    have main:(∀v∈[WV.c (.one a),.c (.one c)],v.ok)->(zOk P ts t&&Bd.fit t b&&Nat.ble (nb*by_) 281474976710656&&Nat.ble nb 9223372036854775807)=true->m=n-> ∀kin:List (Nat×WB),kin.map (·.1)=[]->
      OpOk P (.makeSlice ts x y) ty (List.zip [x,y] ([WV.c (.one a),.c (.one c)].map WV.exp)) (kinE kin) R.exp (LwE [(d,some B)])/\R.ok/\LwOk [(d,some B)]:=by
     intro hv hcond hmn kin hk;rw[qn hk];subst hmn;simp only[q5m]at hcond;obtain⟨⟨⟨hz,hf⟩,h1⟩,h2⟩:=hcond;have h1:=q6a h1;have h2:=q6a h2;obtain⟨z,b0,e1,e2,e3,e4,e5⟩:=CU hz;have hb0:=hb;rw[e2]at hb0;cases hb0
     have hn:=oa (hv _ q5Q).1;have hn1:m*by_<=281474976710656:=q6e (q6r _ hn) h1;have hall: ∀x∈List.replicate m t.dft,Bnd t b x:=λx hx=>by rw[List.eq_of_mem_replicate hx];exact DG hf
     show OpOk P _ _ [(x,(WV.c (.one a)).exp),(y,(WV.c (.one c)).exp)] [] R.exp [(d,some B.exp)]/\_;rw[jq ea,jq ec];unfold UE at hm;split at hm
     .simp only[q6E,q6F]at hm
      obtain⟨rfl,rfl,rfl,rfl⟩:=hm;refine⟨QF e2 e1 e4 hn1 (by omega) (λβ H w=>⟨_,_,Bm.set_same _ _ _,by simp⟩) (λβ H w T=>⟨_,_,_,T,Bm.set_same _ _ _,wG w _,Dw e3 e4 _ _ _⟩),⟨⟨q6d _,hn⟩,rfl⟩,vV hall⟩
     .simp only[q6E,q6F]at hm
      obtain⟨rfl,rfl,rfl,rfl⟩:=hm;refine⟨QF e2 e1 e4 hn1 (by omega) (λβ H w=> .inr ⟨_,_,Bm.set_same _ _ _,rfl⟩) (λβ H w T=> .inr ⟨_,_,_,T,Bm.set_same _ _ _,wG w _,by simp,?_,?_⟩),⟨hn,rfl⟩,vV hall⟩
      .rw[zH];simp
      .have hl:=(Dw (n:=m) e3 e4 (β.set d (some (w.heap.size,m))) H).length
       rw[hl,q5Y];exact Dw e3 e4 _ _ _
     .cases hm
    cases hcond:zOk P ts t&&Bd.fit t b&&Nat.ble (nb*by_) 281474976710656&&Nat.ble nb 9223372036854775807 with
    |false=>exact trivial
    |true=>
     simp only[cond_true]
     cases hl:D7 a&&D7 c&&Nat.beq n m with
     |true=>
      simp only[q5m]at hl;exact λhv _ _ kin hk _=>main hv hcond (q68 hl.2).symm kin hk
     |false=>exact λhv _ hvc kin hk _=>main hv hcond (hvc _ q5Q) kin hk
   .exact trivial
  .exact trivial
 .exact trivial
def Ow:WV->WV->Bool
 | .c (.one (.kn k z)),.c (.one c)=>kbeq k .i64&&decide (z=0)&&!D7 c
 |_,_=>false
def MT(P:Program)(ts:TypeId)(h:MH)(d:Nat):WV->WV->HR
 | .c (.one (.kn .i64 (.ofNat 0))),.c (.one c)=>match h,asN c,elB P ts with
  | .gro t b,some (.i64,mb,m),some (_,by_)=>bif zOk P ts t&&Nat.ble (mb*by_) 281474976710656&&Nat.ble mb 9223372036854775807 then .ok [] (.c (.one (.gs d 0 t.w 0))) [] [(d,some (.gro t b []))]else .bad
  |_,_,_=> .bad
 |_,_=> .bad
def MU(P:Program)(ts:TypeId)(h:MH)(d:Nat)(p v:WV):HR:=bif Ow p v then MT P ts h d p v else PG P ts h d p v
theorem WS{ts:TypeId}{h:MH}{d:Nat}{x y:Operand}{p v:WV}:HOk P (.makeSlice ts x y) ty [x,y] [p,v] bl (MT P ts h d p v):=by
 unfold MT;split
 .rename_i c
  split
  .rename_i t b mb m s by_ hc hb
   obtain⟨ec,oc⟩:=v6 hc
   cases hcond:zOk P ts t&&Nat.ble (mb*by_) 281474976710656&&Nat.ble mb 9223372036854775807 with
   |false=>exact trivial
   |true=>
    simp only[q5m]at hcond;obtain⟨⟨hz,h1⟩,h2⟩:=hcond;have h1:=q6a h1;have h2:=q6a h2;obtain⟨z,b0,e1,e2,e3,e4,e5⟩:=CU hz;have hb0:=hb;rw[e2]at hb0;cases hb0
    intro hv _ _ kin hk _;rw[qn hk];have hn:=oc (hv _ (q5P _ q5Q)).1;have hn1:m*by_<=281474976710656:=q6e (q6r _ hn) h1;refine⟨?_,⟨q6d 0,rfl⟩,vV (show∀u∈([]:List t.den),Bnd t b u from λu hu=>by cases hu)⟩;show OpOk P _ _ [(x,qo .i64 0),(y,(WV.c (.one c)).exp)] [] _ _;rw[jq ec];exact q1q e2 e1 e4 hn1 (by omega)
  .exact trivial
 .exact trivial
theorem WT{ts:TypeId}{h:MH}{d:Nat}{x y:Operand}{p v:WV}:HOk P (.makeSlice ts x y) ty [x,y] [p,v] bl (MU P ts h d p v):=by
 unfold MU
 cases Ow p v with
 |true=>exact WS (h:=h) (d:=d)
 |false=>exact q1x
def clrL(t:Ty)(l:List t.den)(lo n:Nat):List t.den:=l.take lo++(List.replicate n t.dft++l.drop (lo+n))
theorem SA(t:Ty)(l:List t.den)(lo n:Nat):spl (je t l) (lo*t.w) (je t (List.replicate n t.dft))=je t (clrL t l lo n):=by
 unfold spl clrL;rw[Cu,Cu,EZ,zH,List.length_replicate,<-q63,EY]
def MQ(P:Program)(ts:TypeId)(bl:Nat->Option WB):WV->HR
 | .c (.one (.so k lo n w nb))=>match bl k with
  |some (.gro t b l)=>bif zOk P ts t&&Bd.fit t b&&Nat.beq w t.w then .ok [0<n,lo+n<=l.length] wX [k] [(k,some (.gro t b (clrL t l lo n)))]else .bad
  |_=> .bad
 |_=> .bad
theorem WP{ts:TypeId}{x:Operand}{v:WV}:HOk P (.call {callee:= .builtin .clear,args:= #[x],argTypes:= #[ts]}) ty [x] [v] bl (MQ P ts bl v):=by
 unfold MQ;split
 .rename_i k lo n w nb
  split
  .rename_i t b l hl
   cases hb:zOk P ts t&&Bd.fit t b&&Nat.beq w t.w with
   |false=>exact trivial
   |true=>
    simp only[q5m]at hb;obtain⟨⟨hz,hf⟩,hw⟩:=hb;have:=q68 hw;subst this
    obtain⟨z,b0,e1,e2,e3,e4,e5⟩:=CU hz;intro hv hbl hvc kin hk hkb;rw[zD hk hkb hl];have h1:0<n:=hvc _ q5Q;have h2:lo+n<=l.length:=hvc (lo+n<=l.length) (by simp);have hok: ∀u∈l,Bnd t b u:=hbl k _ hl;refine⟨?_,(λx hx=>by simp at hx),vV (show∀u∈clrL t l lo n,Bnd t b u from λu hu=>?_)⟩
    .show OpOk P _ _ [(x,_)] [(k,.grow t.w (je t l))] E6 [(k,some (.grow t.w (je t (clrL t l lo n))))]
     rw[<-SA];exact q1k e2 e1 e5 h1 (by rw[zH,<-q63];exact q6r _ h2) (Dw e3 e4 n)
    .unfold clrL at hu
     rcases q5N.1 hu with hu|hu
     .exact hok u (q5T hu)
     .rcases q5N.1 hu with hu|hu
      .rw[List.eq_of_mem_replicate hu];exact DG hf
      .exact hok u (q6V hu)
  .exact trivial
 .exact trivial
def wfill(place:Nat->Option (Nat×Nat)):List WA->List (Nat×WC)->Option (List WA)
 |l,[]=>some l
 |l,(i,x)::rest=>match place i with
  |none=>none
  |some (off,s)=>bif Nat.beq (WAs.wd x.cells) s then(match carve l off s with|some (a,_,p)=>wfill place (a++(x.cells++p)) rest|none=>none)else none
theorem EP{place:Nat->Option (Nat×Nat)}: ∀{parts:List (Nat×WC)}{l r:List WA},wfill place l parts=some r->WAs.ok l->(∀p∈parts,p.2.ok)->
  afill place (WAs.exp l) (parts.map λp=>(p.1,p.2.exp))=some (WAs.exp r)/\WAs.ok r
 |[],l,r,h,hl,_=>by simp[wfill]at h;subst h;exact⟨rfl,hl⟩
 |(i,x)::rest,l,r,h,hl,hp=>by
  simp only[wfill]at h;simp only[q5M,afill]
  cases hpl:place i with
  |none=>rw[hpl]at h;cases h
  |some q=>
   obtain⟨off,s⟩:=q;rw[hpl]at h;simp only at h⊢
   cases hw:Nat.beq (WAs.wd x.cells) s with
   |false=>rw[hw]at h;cases h
   |true=>
    rw[hw]at h;simp only[cond_true]at h
    have hw:=q68 hw
    cases hc:carve l off s with
    |none=>rw[hc]at h;cases h
    |some q=>
     obtain⟨a,m,p⟩:=q;rw[hc]at h;simp only at h
     have hx:x.ok:=hp _ q5Q;have hvl:(WAs.exp x.cells).length=s:=by rw[WAs.exp_len,hw]
     have hok:=(vr hc).2.2.2 hl;obtain⟨h1,h2⟩:=EP h (WAs.ok_app.2 ⟨hok.1,WAs.ok_app.2 ⟨WC.ok_cells hx,hok.2.2⟩⟩) (λp hp'=>hp p (q5P _ hp'));refine⟨?_,h2⟩;have hle:=(wg hc).2;have e1:Nat.beq x.exp.cells.length s=true:=by rw[WC.exp_cells hx,hvl];exact Nat.beq_refl s
     have e2:Nat.ble (off+s) (WAs.exp l).length=true:=Nat.ble_eq_true_of_le hle;rw[e1,e2];simp only[Bool.and_self,cond_true];rw[WC.exp_cells hx,F1 hc hvl];exact h1
def wcs:List WV->Option (List WC)
 |[]=>some []
 | .c x::r=>match wcs r with|some l=>some (x::l)|none=>none
 | .tup _::_=>none
theorem Hs: ∀{vs:List WV}{l:List WC},wcs vs=some l->vs=l.map WV.c
 |[],l,h=>by simp[wcs]at h;subst h;rfl
 | .c x::r,l,h=>by
  simp only[wcs]at h
  cases hr:wcs r with
  |none=>rw[hr]at h;cases h
  |some l'=>rw[hr]at h;simp at h;subst h;rw[Hs hr];rfl
 | .tup _::_,_,h=>by simp[wcs]at h
def MM(P:Program)(t:TypeId)(parts:Array (Nat×Operand))(vs:List WV):HR:=
 match P.info? t with
 |some ti=>match ti.zero with
  |some z=>match wY z.cells.toList with
   |some zs=>match Ge P t with
    |some place=>match wcs vs with
     |some cs=>bif Nat.beq parts.size cs.length&&GK P t then(match wfill place zs (List.zip (parts.toList.map (·.1)) cs)with|some r=> .ok [] (.c (.agg r)) [] []|none=> .bad)else .bad
     |none=> .bad
    |none=> .bad
   |none=> .bad
  |none=> .bad
 |none=> .bad
theorem DC{α β γ:Type}(f:β->γ): ∀(l:List α)(m:List β),(List.zip l m).map (λp=>(p.1,f p.2))=List.zip l (m.map f)
 |[],_=>by simp
 |_::_,[]=>by simp
 |a::l,b::m=>by simp[DC f l m]
theorem WL{t:TypeId}{parts:Array (Nat×Operand)}{vs:List WV}:HOk P (.build t parts) ty (parts.toList.map (·.2)) vs bl (MM P t parts vs):=by
 unfold MM;split
 .rename_i ti hi
  split
  .rename_i z hz
   split
   .rename_i zs hzs
    split
    .rename_i place hp
     split
     .rename_i cs hcs
      cases hb:Nat.beq parts.size cs.length&&GK P t with
      |false=>exact trivial
      |true=>
       simp only[q5m]at hb;simp only[cond_true];split
       .rename_i r hf
        intro hv _ _ kin hk _;rw[qn hk];have:=Hs hcs;subst this
        obtain⟨z1,z2⟩:=ww hzs;have hvc: ∀x∈cs,x.ok:=λx hx=>hv (.c x) (q6T.2 ⟨x,hx,rfl⟩)
        obtain⟨f1,f2⟩:=EP hf z2 (λp hp=>hvc _ (List.of_mem_zip hp).2);rw[DC]at f1;refine⟨?_,f2,qx⟩;have h3:=hb.2;have:=Tf (P:=P) (ty:=ty) (parts:=parts) (vs:=cs.map WC.exp) hi hz z1 hp (by rw[q5J];exact q68 hb.1) (λfs hfs=>by unfold GK at h3;rw[hfs]at h3;exact h3) f1;rw[List.map_map]at this;rw[List.map_map];exact this
       .exact trivial
     .exact trivial
    .exact trivial
   .exact trivial
  .exact trivial
 .exact trivial
def B8(t:Ty)(b:Bd):Nat->List WA->Option (List t.den)
 |0,[]=>some []
 |0,_::_=>none
 |n+1,l=>match reify t l with
  |some (b',x,r)=>bif b'.le b then(match B8 t b n r with|some xs=>some (x::xs)|none=>none)else none
  |none=>none
theorem BF{t:Ty}{b:Bd}: ∀{n:Nat}{l:List WA}{xs:List t.den},B8 t b n l=some xs->AImps (WAs.exp l) (je t xs)/\xs.length=n/\(WAs.ok l-> ∀x∈xs,Bnd t b x)
 |0,[],xs,h=>by simp[B8]at h;subst h;exact⟨trivial,rfl,λ_ x hx=>by simp at hx⟩
 |0,_::_,_,h=>by simp[B8]at h
 |n+1,l,xs,h=>by
  simp only[B8]at h
  cases hr:reify t l with
  |none=>rw[hr]at h;cases h
  |some q=>
   obtain⟨b',x,r⟩:=q;rw[hr]at h;simp only at h
   cases hb:b'.le b with
   |false=>rw[hb]at h;cases h
   |true=>
    rw[hb]at h;simp only[cond_true]at h
    cases hx:B8 t b n r with
    |none=>rw[hx]at h;cases h
    |some ys=>
     rw[hx]at h;simp at h;subst h
     obtain⟨m,e1,i1,o1⟩:=vv hr;obtain⟨i2,l2,o2⟩:=BF hx;refine⟨by rw[e1];exact zX i1 i2,by simp[l2],λhk y hy=>?_⟩;rcases q5O.1 hy with rfl|hy
     .exact Bnd.mono hb (o1 hk).1
     .exact o2 (o1 hk).2 y hy
theorem QE{t ty:TypeId}{s b len:Nat}{z:Array Value}{zs cs:List Atom}{cells:List CAtom}{parts:Array (Nat×Operand)}{vs:List Cmp}
  (hb:elB P t=some (s,b))(hz:elZ P t=some z)(hbig:Nat.ble (len*s) 16777216=true)(hzs:vT (BK (len*s) z)=some zs)(hl:parts.size=vs.length)
  (hf:afill (Bh s) zs (List.zip (parts.toList.map (·.1)) vs)=some cs)(hc:AImps cs (cells.map CAtom.up)):
  OpOk P (.buildSlice t len parts) ty (List.zip (parts.toList.map (·.2)) (vs.map AV.c)) [] (.c (.one (.abs (flP cells len)))) []:=by
 intro dst pos after guard a w H β K Q hins _ _ hon hK;obtain⟨T,arr,hrun,hsat⟩:=Av (a:=a) (β:=β) (H:=H) hb hz hbig hzs hl hf hins w;unfold Oper.wp
 have:(execOp a.eval ⟨dst,.buildSlice t len parts,ty,pos,after,guard⟩).run P w= .ok (.value (.slice (some ⟨w.heap.size,0,none⟩) len len)) (w.alloc (.cells arr T)):=by
  simp only[execOp,q6H,hrun,q6G,q6I]
 rw[this];refine hK _ _ _ β (by simpa[kwOf,qX,vg]using Step.new (β:=β) arr T hon) ?_ (λk b hb=>by simp at hb);refine⟨_,_,rfl,q6d _,.inr ⟨w.heap.size,0,arr,rfl,Heap.set_at _ _ _,?_⟩⟩;have h1:=CSats.of_up (AImps.sats hc hsat);have h2:=CSats.length h1;rw[q5v,q5Z (by omega)];exact h1.mono (Heap.set_le _ (hon.none (q6d _)))
def DB(P:Program)(ts:TypeId)(len:Nat)(parts:Array (Nat×Operand))(h:MH)(d:Nat)(vs:List WV):HR:=
 match elB P ts,elZ P ts with
 |some (s,_),some z=>match wY (BK (len*s) z)with
  |some zs=>match wcs vs with
   |some cs=>bif Nat.ble (len*s) 16777216&&Nat.beq parts.size cs.length then(match wfill (Bh s) zs (List.zip (parts.toList.map (·.1)) cs)with
    |some r=>match h with
     | .im t b=>match B8 t b len r with
      |some xs=>bif Nat.beq s t.w then .ok [] (vL t len b xs) [] []else .bad
      |none=> .bad
     | .arr t b=>match B8 t b len r with
      |some xs=>bif Nat.beq s t.w&&(WAs.ids r).all (λk=>!Nat.beq k d)then .ok [] (.c (.one (.ls d none len len t.w len))) [] [(d,some (.arr t b xs))]else .bad
      |none=> .bad
     | .gro t b=>match B8 t b len r with
      |some xs=>bif Nat.beq s t.w&&(WAs.ids r).all (λk=>!Nat.beq k d)then .ok [] (.c (.one (.gs d len t.w len))) [] [(d,some (.gro t b xs))]else .bad
      |none=> .bad
     | .no=> .bad
    |none=> .bad)else .bad
   |none=> .bad
  |none=> .bad
 |_,_=> .bad
theorem LS{ts:TypeId}{len:Nat}{parts:Array (Nat×Operand)}{h:MH}{d:Nat}{vs:List WV}:HOk P (.buildSlice ts len parts) ty (parts.toList.map (·.2)) vs bl (DB P ts len parts h d vs):=by
 unfold DB;split
 .rename_i s by_ z hb hz
  split
  .rename_i zs hzs
   split
   .rename_i cs hcs
    cases hc:Nat.ble (len*s) 16777216&&Nat.beq parts.size cs.length with
    |false=>exact trivial
    |true=>
     simp only[q5m]at hc;simp only[cond_true];split
     .rename_i r hf
      have hpre:(∀v∈vs,v.ok)->afill (Bh s) (WAs.exp zs) (List.zip (parts.toList.map (·.1)) (cs.map WC.exp))=some (WAs.exp r)/\WAs.ok r/\vs=cs.map WV.c:=by
       intro hv;have:=Hs hcs;subst this
       obtain⟨z1,z2⟩:=ww hzs;have hvc: ∀x∈cs,x.ok:=λx hx=>hv (.c x) (q6T.2 ⟨x,hx,rfl⟩)
       obtain⟨f1,f2⟩:=EP hf z2 (λp hp=>hvc _ (List.of_mem_zip hp).2);rw[DC]at f1;exact⟨f1,f2,rfl⟩
      have hz1:=(ww hzs).1;have hpl:parts.size=(cs.map WC.exp).length:=by rw[q5J];exact q68 hc.2
      have hvs:vs=cs.map WV.c->(List.zip (parts.toList.map (·.2)) (vs.map WV.exp))=List.zip (parts.toList.map (·.2)) ((cs.map WC.exp).map AV.c):=by
       intro e;subst e;rw[List.map_map,List.map_map];rfl
      split
      .rename_i t b
       split
       .rename_i xs hx
        cases hw:Nat.beq s t.w with
        |false=>exact trivial
        |true=>
         have:=q68 hw;subst this
         intro hv _ _ kin hk _;rw[qn hk];obtain⟨f1,f2,e⟩:=hpre hv;obtain⟨i1,l1,o1⟩:=BF hx;refine⟨?_,⟨⟨Nat.le_of_eq l1,o1 f2⟩,rfl⟩,qx⟩;rw[hvs e,Fx,l1];exact QE hb hz hc.1 hz1 hpl f1 (by rw[<-vU];exact i1)
       .exact trivial
      .rename_i t b
       split
       .rename_i xs hx
        cases hw:Nat.beq s t.w&&(WAs.ids r).all (λk=>!Nat.beq k d)with
        |false=>exact trivial
        |true=>
         simp only[q5m]at hw;have:=q68 hw.1;subst this
         intro hv _ _ kin hk _;rw[qn hk];obtain⟨f1,f2,e⟩:=hpre hv;obtain⟨i1,l1,o1⟩:=BF hx;refine⟨?_,⟨⟨q6d _,q6d _⟩,rfl⟩,vV (o1 f2)⟩;rw[hvs e];show OpOk P _ _ _ _ (.c (.one (.sl d ((none:Option Nat).getD 0*t.w) len len))) _;rw[show(none:Option Nat).getD 0*t.w=0 by simp];exact(SP hb hz hc.1 hz1 hpl f1 (J8 hw.2)).weak (λ_ _ _ h=>h) (DF (zM i1))
       .exact trivial
      .rename_i t b
       split
       .rename_i xs hx
        cases hw:Nat.beq s t.w&&(WAs.ids r).all (λk=>!Nat.beq k d)with
        |false=>exact trivial
        |true=>
         simp only[q5m]at hw;have:=q68 hw.1;subst this
         intro hv _ _ kin hk _;rw[qn hk];obtain⟨f1,f2,e⟩:=hpre hv;obtain⟨i1,l1,o1⟩:=BF hx;refine⟨?_,⟨q6d _,rfl⟩,vV (o1 f2)⟩;rw[hvs e];exact(SO hb hz hc.1 hz1 hpl f1 (J8 hw.2) (by rw[Ca i1,zH,l1])).weak (λ_ _ _ h=>h) (DF (JN i1))
       .exact trivial
      .exact trivial
     .exact trivial
   .exact trivial
  .exact trivial
 .exact trivial
theorem OpOk.nilgs{op:Op}{x y:Operand}{k d m s:Nat}{Y:AV}{B:Blk}(hkd:d≠k)(hY:Y.men k=false)(hB:B.men k=false)
  (h:OpOk P op ty [(x,.c (.one (.gs k 0))),(y,Y)] [(k,.grow s [])] (.c (.one (.gs d m))) [(k,none),(d,some B)]):
  OpOk P op ty [(x,.c (.one (.val (.slice none 0 0)))),(y,Y)] [] (.c (.one (.gs d m))) [(d,some B)]:=by
 intro dst pos after guard a w H β K Q hins _ _ hon hK;have hx:=(hins _ q5Q).1;have hy:=hins (y,Y) (by simp);simp only at hx hy;have hkd2:Nat.beq k d=false:=jm (λh=>hkd h.symm);have hdk2:Nat.beq d k=false:=jm hkd;refine h dst pos after guard a w H (β.set k none) K Q ?_ ?_ ?_ hon ?_
 .intro p hp
  simp only[q5O,q5W,or_false]at hp;rcases hp with rfl|rfl
  .exact .inl ⟨Bm.set_same _ _ _,rfl,hx⟩
  .refine AV.sat_congr (Heap.Le.refl _) (λq hq=>Bm.set_other _ _ λe=>?_) hy
   subst e;rw[hY]at hq;cases hq
 .intro p hp
  simp only[q5U]at hp;subst hp
  refine⟨.inl ⟨Bm.set_same _ _ _,rfl⟩,λb c hb=>?_⟩;rw[Bm.set_same]at hb;cases hb
 .intro p hp p' hp' hne
  simp only[q5U]at hp hp';subst hp hp';exact absurd rfl hne
 .intro v w' H' β' hs hR hL
  have hkw:kwOf [(k,Blk.grow s [])] [(k,(none:Option Blk)),(d,some B)]=[k]:=by simp[kwOf,look,hkd2]
  have hkn:qX [(k,Blk.grow s [])] [(k,(none:Option Blk)),(d,some B)]=[d]:=by simp[qX,look,hkd2]
  have hkdd:vg [(k,(none:Option Blk)),(d,some B)]=[k]:=by simp[vg]
  rw[hkw,hkn,hkdd]at hs;have hbd:(β'.set k (β k)) d=β' d:=Bm.set_other _ _ hkd;refine hK v w' H' (β'.set k (β k)) ?_ ?_ ?_
  .have e1:kwOf ([]:List (Nat×Blk)) [(d,some B)]=[]:=by simp[kwOf,look]
   have e2:qX ([]:List (Nat×Blk)) [(d,some B)]=[d]:=by simp[qX,look]
   have e3:vg [(d,some B)]=[]:=by simp[vg]
   rw[e1,e2,e3];refine⟨hs.os,hs.tape,hs.output,hs.size,λb hb _=>hs.keep b hb λq hq c hc=>?_,hs.hle,hs.hnew,hs.hon,λq hq=>?_,λq hq b c hb=>?_,λq hq q' hq' hne=>?_⟩
   .simp only[q5U]at hq;subst hq;rw[Bm.set_same]at hc;cases hc
   .by_cases e:q=k
    .subst e;exact Bm.set_same _ _ _
    .rw[Bm.set_other _ _ e,hs.beta q hq,Bm.set_other _ _ e]
   .simp only[q5U]at hq;subst hq
    rw[hbd]at hb;obtain⟨f1,f2⟩:=hs.fresh _ (by simp) b c hb;refine⟨f1,.inl ?_⟩;rcases f2 with f2|⟨k0,hk0,c0,f2⟩
    .exact f2
    .simp only[q5U]at hk0;subst hk0;rw[Bm.set_same]at f2;cases f2
   .simp only[q5U]at hq hq';subst hq hq';exact absurd rfl hne
  .refine AV.sat_congr (Heap.Le.refl _) (λq hq=>Bm.set_other _ _ λe=>?_) hR
   subst e;simp only[AV.men,Cmp.men,Atom.men,beq_iff_eq]at hq;exact hkd hq
  .intro q b hqb
   simp only[q5U,q6F,q6E]at hqb;obtain⟨rfl,rfl⟩:=hqb;refine Blk.rep_congr (hL _ _ (by simp)) (Heap.Le.refl _) (λq hq=>Bm.set_other _ _ λe=>?_) (λ_ _ _=>rfl);subst e;rcases hq with e|e
   .exact hkd e.symm
   .rw[hB]at e;cases e
def JG (P : Program) (ts tx : TypeId) (h : MH) (bl : Nat -> Option WB) (d : Nat) : WV -> WV -> HR
  | .c (.one a), .c (.one y) => match asL y, elB P ts with
    | some ⟨t, by_, xs⟩, some (_, bytes) => bif zOk P ts t && vy P tx && Nat.blt 0 bytes then (match a with
      | .gs k n w nb => match bl k with
        | some (.gro t' b l) => bif Nat.beq w t.w && Nat.ble ((2 * (nb + by_.len) + 1000) * bytes) 281474976710656 && !Nat.beq d k then (match t'.beq t with
            | true => if h : t.beq t' = true then
              (bif by_.e.le b then .ok [n = l.length] (.c (.one (.gs d (n + xs.length) w (nb + by_.len)))) [k] [(k, none), (d, some (.gro t' b (l ++ vi (t := .sl t) (t' := .sl t') h xs)))]
               else .ok [n = l.length, ∀ x ∈ xs, Bnd t b x] (.c (.one (.gs d (n + xs.length) w (nb + by_.len)))) [k] [(k, none), (d, some (.gro t' b (l ++ vi (t := .sl t) (t' := .sl t') h xs)))]) else .bad
            | false => .bad) else .bad
        | _ => .bad
      | a => bif zm a && Nat.ble ((2 * (0 + by_.len) + 1000) * bytes) 281474976710656 then (match h with
          | .gro t' b => bif t'.beq t && by_.e.le b then .ok [] (.c (.one (.gs d xs.length t.w by_.len))) [] [(d, some (.gro t b xs))] else .bad
          | _ => .bad) else .bad) else .bad
    | _, _ => .bad
  | _, _ => .bad
theorem K2{t:TypeId}(h:vy P t=true): ∃e,P.underlying t=some (.slice e):=by
 unfold vy at h;split at h
 .rename_i e h1;exact⟨e,h1⟩
 .cases h
theorem SV{ts tx:TypeId}{h:MH}{d:Nat}{x y:Operand}{p v:WV}:
  HOk P (.call {callee:= .builtin .append,args:= #[x,y],argTypes:= #[ts,tx]}) ty [x,y] [p,v] bl (JG P ts tx h bl d p v):=by
 unfold JG;split
 .rename_i a q
  split
  .rename_i t by_ xs s0 bytes hy hb
   obtain⟨ey,oy⟩:=Bf hy
   cases hc:zOk P ts t&&vy P tx&&Nat.blt 0 bytes with
   |false=>exact trivial
   |true=>
    simp only[q5m]at hc;simp only[cond_true];obtain⟨⟨hz,htx⟩,hby⟩:=hc
    have hby:0<bytes:=by simpa using hby
    obtain⟨z,b0,e1,e2,e3,e4,e5⟩:=CU hz;rw[e2]at hb;cases hb
    obtain⟨ex,hex⟩:=K2 htx;split
    .rename_i k n w nb
     split
     .rename_i t' b l hl
      cases hd:Nat.beq w t.w&&Nat.ble ((2*(nb+by_.len)+1000)*bytes) 281474976710656&&!Nat.beq d k with
      |false=>exact trivial
      |true=>
       simp only[q5m]at hd;simp only[cond_true];obtain⟨⟨hw,hbig⟩,hdk⟩:=hd;have:=q68 hw;subst this
       have hbig:=q6a hbig;have hdk:d≠k:=λe=>by subst e;simp at hdk
       split
       .split
        .rename_i hbeq htt
         have:=Ty.beq_eq htt;subst this
         have main:(∀u∈[WV.c (.one (.gs k n t.w nb)),.c (.one q)],u.ok)->(∀k b,bl k=some b->b.ok)->n=l.length->(∀x∈xs,Bnd t b x)-> ∀kin:List (Nat×WB),kin.map (·.1)=[k]->(∀p∈kin,bl p.1=some p.2)->
           OpOk P (.call {callee:= .builtin .append,args:= #[x,y],argTypes:= #[ts,tx]}) ty (List.zip [x,y] ([WV.c (.one (.gs k n t.w nb)),.c (.one q)].map WV.exp)) (kinE kin) (WV.c (.one (.gs d (n+xs.length) t.w (nb+by_.len)))).exp (LwE [(k,none),(d,some (.gro t b (l++vi (t:= .sl t) (t':= .sl t) htt xs)))])/\(WV.c (.one (.gs d (n+xs.length) t.w (nb+by_.len)))).ok/\LwOk [(k,none),(d,some (.gro t b (l++vi (t:= .sl t) (t':= .sl t) htt xs)))]:=by
          intro hv hbl hn hxs kin hk hkb;rw[zD hk hkb hl];have hcast:vi (t:= .sl t) (t':= .sl t) htt xs=xs:=rfl;rw[hcast];have hnb:n<=nb:=(hv _ q5Q).1;have hyb:=Bnd.sl (oy (hv (.c (.one q)) (by simp)).1);have hlb: ∀x∈l,Bnd t b x:=hbl k _ hl;refine⟨?_,⟨show n+xs.length<=nb+by_.len by have:=hyb.1;omega,rfl⟩,?_⟩
          .show OpOk P _ _ [(x,_),(y,(WV.c (.one q)).exp)] [(k,.grow t.w (je t l))] (.c (.one (.gs d (n+xs.length)))) [(k,none),(d,some (.grow t.w (je t (l++xs))))]
           rw[Cf ey,Cu,vU t xs];refine NG e2 e1 hex e5 hby e4 (v4 _ _) (by rw[zH,hn]) ?_ hdk (zI _ _ _);refine q6e (q6r _ ?_) hbig;have:=hyb.1;omega
          .intro k' b' hm
           simp only[q5O,q6F,reduceCtorEq,and_false,q6E,q5W,or_false,false_or]at hm;obtain⟨_,rfl⟩:=hm;intro u hu;rcases q5N.1 hu with hu|hu
           .exact hlb u hu
           .exact hxs u hu
         cases hle:by_.e.le b with
         |true=>
          simp only[cond_true];exact λhv hbl hvc kin hk hkb=>main hv hbl (hvc _ q5Q) (λu hu=>Bnd.mono hle ((Bnd.sl (oy (hv (.c (.one q)) (by simp)).1)).2 u hu)) kin hk hkb
         |false=>
          simp only[cond_false];exact λhv hbl hvc kin hk hkb=>main hv hbl (hvc _ q5Q) (hvc (∀x∈xs,Bnd t b x) (by simp)) kin hk hkb
        .exact trivial
       .exact trivial
     .exact trivial
    .cases hd:zm a&&Nat.ble ((2*(0+by_.len)+1000)*bytes) 281474976710656 with
     |false=>exact trivial
     |true=>
      simp only[q5m]at hd;have:=wt hd.1;subst this
      have hbig:=q6a hd.2;simp only[cond_true];split
      .rename_i t' b
       cases htb:t'.beq t&&by_.e.le b with
       |false=>exact trivial
       |true=>
        simp only[q5m]at htb;intro hv hbl hvc kin hk hkb;rw[qn hk];have hyb:=Bnd.sl (oy (hv (.c (.one q)) (by simp)).1);refine⟨?_,⟨hyb.1,rfl⟩,vV λu hu=>Bnd.mono htb.2 (hyb.2 u hu)⟩;show OpOk P _ _ [(x,.c (.one (.val (.slice none 0 0)))),(y,(WV.c (.one q)).exp)] [] (.c (.one (.gs d xs.length))) [(d,some (.grow t.w (je t xs)))];rw[Cf ey];refine OpOk.nilgs (k:=d+1) (s:=t.w) (by omega) rfl (zI _ _ _) ?_;have:=NG (P:=P) (ty:=ty) (x:=x) (y:=y) (k:=d+1) (d:=d) (n:=0) (m:=xs.length) (cs:=[]) (cells:=jb t xs) e2 e1 hex e5 hby e4 (v4 _ _) (by simp) (q6e (q6r _ (by have:=hyb.1;omega)) hbig) (by omega) rfl;rw[q6z,q5V,<-vU]at this;exact this
      .exact trivial
  .exact trivial
 .exact trivial
end
end
end Go.Proofs.YtajflbhmdcgkmaaGreat.Sx
